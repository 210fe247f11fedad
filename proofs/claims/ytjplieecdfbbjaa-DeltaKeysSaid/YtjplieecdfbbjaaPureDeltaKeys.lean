/- For every list of at most 60 steps, every place, every side, every key: the key that is there, and the steps with a key put there, are the reference's. -/
import Derived.Test.YtjplieecdfbbjaaPDeltaKeysx3
import Derived.Test.YtjplieecdfbbjaaWSized
namespace Go.Proofs.Ytjplieecdfbbjaa.PrintWords
set_option linter.defProp false in
/-- The printed row names this lemma without the seat-wide namespace. -/
def sized_ints := @Go.Proofs.YtjplieecdfbbjaaW.PrintWords.sized_ints
end Go.Proofs.Ytjplieecdfbbjaa.PrintWords
namespace Go.Proofs.Ytjplieecdfbbjaa.Pure
open Go.RowKit Go.Proofs.Ytjplieecdfbbjaa.PDeltaKeys Go.Proofs.YtjplieecdfbbjaaW.PrintWords Go.Proofs.YtjplieecdfbbjaaW.PrintLast Go.Proofs.YtjplieecdfbbjaaW.PrintMore
set_option linter.unusedVariables false
set_option linter.unusedSimpArgs false

theorem wrap_id {i : Int} (h0 : -9223372036854775808 ≤ i) (h1 : i < 9223372036854775808) : wrap64 i = i := by unfold wrap64; omega
theorem wrap_succ {n : Nat} (h : n < 9223372036854775807) : wrap64 ((n : Int) + 1) = ((n + 1 : Nat) : Int) := by unfold wrap64; omega

theorem rd_at (l : List Int) {n : Nat} (h : n < l.length) : rd l (n : Int) = l[n] := by
  unfold rd; rw [Int.toNat_natCast, List.getD_eq_getElem?_getD, List.getElem?_eq_getElem h]; rfl
theorem rd_d (l : List Int) (n : Nat) : rd l (n : Int) = l.getD n 0 := rfl
theorem rd_out (l : List Int) {n : Nat} (h : l.length ≤ n) : rd l (n : Int) = 0 := by
  rw [rd_d, List.getD_eq_getElem?_getD, List.getElem?_eq_none h]; rfl
theorem drop_rd (l : List Int) {n : Nat} (h : n < l.length) : l.drop n = rd l (n : Int) :: l.drop (n + 1) := by
  rw [rd_at l h]; exact List.drop_eq_getElem_cons h
theorem take_rd (l : List Int) {n : Nat} (h : n < l.length) : l.take (n + 1) = l.take n ++ [rd l (n : Int)] := by
  rw [rd_at l h, List.take_succ_eq_append_getElem h]
theorem rd_mem (l : List Int) {n : Nat} (h : n < l.length) : rd l (n : Int) ∈ l := by rw [rd_at l h]; exact List.getElem_mem h
theorem rd_app_lt (l : List Int) (x : Int) {n : Nat} (h : n < l.length) : rd (l ++ [x]) (n : Int) = rd l (n : Int) := by
  rw [rd_at _ (by rw [List.length_append]; omega), rd_at _ h, List.getElem_append_left h]
theorem rd_app_eq (l : List Int) (x : Int) : rd (l ++ [x]) (l.length : Int) = x := by
  rw [rd_at _ (by rw [List.length_append, List.length_singleton]; omega)]; simp
theorem rd_app (l : List Int) (x : Int) (n : Nat) (h : n ≤ l.length) : rd (l ++ [x]) (n : Int) = if n = l.length then x else rd l (n : Int) := by
  by_cases e : n = l.length
  · rw [if_pos e, e, rd_app_eq]
  · rw [if_neg e, rd_app_lt _ _ (by omega)]
theorem rd_set (l : List Int) (i n : Nat) (x : Int) (h : n < l.length) : rd (l.set i x) (n : Int) = if n = i then x else rd l (n : Int) := by
  rw [rd_at _ (by rw [List.length_set]; exact h), rd_at _ h, List.getElem_set]
  by_cases e : n = i
  · rw [if_pos e, if_pos e.symm]
  · rw [if_neg e, if_neg (fun q => e q.symm)]
theorem rd_replicate (m n : Nat) (x : Int) (h : n < m) : rd (List.replicate m x) (n : Int) = x := by
  rw [rd_at _ (by rw [List.length_replicate]; exact h), List.getElem_replicate]
theorem rd_take (l : List Int) {m n : Nat} (h : n < m) (hm : m ≤ l.length) : rd (l.take m) (n : Int) = rd l (n : Int) := by
  rw [rd_at _ (by rw [List.length_take]; omega), rd_at _ (by omega), List.getElem_take]
theorem rd_drop (l : List Int) (m n : Nat) : rd (l.drop m) (n : Int) = rd l ((m + n : Nat) : Int) := by
  rw [rd_d, rd_d, List.getD_eq_getElem?_getD, List.getD_eq_getElem?_getD, List.getElem?_drop]
theorem list_ext {l m : List Int} (h : l.length = m.length) (k : ∀ n : Nat, n < l.length → rd l (n : Int) = rd m (n : Int)) : l = m := by
  apply List.ext_getElem h
  intro i h1 h2
  have := k i h1
  rwa [rd_at _ h1, rd_at _ h2] at this
theorem wf64 {a : Int} (h : (Lit.int .i64 a).wf = true) : -9223372036854775808 ≤ a ∧ a ≤ 9223372036854775807 := by
  simp only [Lit.wf, IntKind.min, IntKind.max, IntKind.signed, IntKind.bits, Bool.and_eq_true, decide_eq_true_eq, if_true] at h
  omega
/-- At least one round. -/
theorem round {k d : Nat} (h : d < k) : ∃ m, k = m + 1 := ⟨k - 1, by omega⟩

theorem or_bit (x : Int) (k : Nat) (hk : k < 3) (h0 : 0 ≤ x) (h1 : x < 2 ^ k) : Go.bits .or .i64 x (shl .i64 1 (k : Int)) = x + 2 ^ k ∧ wrap64 (x + shl .i64 1 (IntKind.u64.wrap (k : Int))) = x + 2 ^ k ∧ 0 ≤ IntKind.u64.wrap (k : Int) := by
  have all : ∀ k : Fin 3, ∀ x : Fin 4, (x.val < 2 ^ k.val) → (Go.bits .or .i64 (x.val : Int) (shl .i64 1 (k.val : Int)) = (x.val : Int) + 2 ^ k.val ∧ wrap64 ((x.val : Int) + shl .i64 1 (IntKind.u64.wrap (k.val : Int))) = (x.val : Int) + 2 ^ k.val ∧ 0 ≤ IntKind.u64.wrap (k.val : Int)) := by decide +kernel
  have e : x = ((x.toNat : Nat) : Int) := by omega
  have hx : x.toNat < 2 ^ k := by
    have : ((x.toNat : Nat) : Int) < ((2 ^ k : Nat) : Int) := by rw [← e]; simpa using h1
    omega
  have h4 : x.toNat < 4 := by
    have : 2 ^ k ≤ 2 ^ 2 := Nat.pow_le_pow_right (by decide) (by omega)
    omega
  have h := all ⟨k, hk⟩ ⟨x.toNat, h4⟩ hx
  simp only at h
  rw [← e] at h; exact h
/-- The key of some steps, from some place on. -/
def keyFrom (d : List Int) (at' : Nat) (t : Nat) : Nat → Nat → Int → Int
  | 0, _, acc => acc
  | m + 1, k, acc => if k < t ∧ at' + k < d.length then keyFrom d at' t m (k + 1) (if rd d ((at' + k : Nat) : Int) = 0 then acc else acc + 2 ^ k) else acc
theorem deltaKey_l0 (d : List Int) (at' t : Nat) (hd : d.length ≤ 1000000) (ha : at' ≤ d.length) (ht : t ≤ 3) (m : Nat) : ∀ (fu k : Nat) (acc : Int), k + m = 4 → 2 * m < fu → 0 ≤ acc → acc < 2 ^ k → k ≤ t →
    delta_Key.l0 fu d (at' : Int) (t : Int) acc (k : Int) = some (keyFrom d at' t m k acc) := by
  induction m with
  | zero => intro fu k acc hk hf h0 h1 h2; omega
  | succ m ih =>
    intro fu k acc hk hf h0 h1 h2
    obtain ⟨fu, rfl⟩ : ∃ q, fu = q + 2 := ⟨fu - 2, by omega⟩
    have hp : (2 : Int) ^ (k + 1) = 2 ^ k + 2 ^ k := by rw [Int.pow_succ]; omega
    have E1 := Aside0.mk (show wrap64 ((at' : Int) + (k : Int)) = ((at' + k : Nat) : Int) from by rw [wrap_id (by omega) (by omega)]; omega)
    have E2 := Aside0.mk (show wrap64 ((k : Int) + 1) = ((k + 1 : Nat) : Int) from wrap_succ (by omega))
    simp only [delta_Key.l0]
    rw [keyFrom]
    by_cases c : k < t
    · rw [if_pos (by omega), E1.out]
      simp only [delta_Key.j1]
      by_cases c2 : at' + k < d.length
      · rw [if_pos (by rw [decide_eq_true (by omega)]), E1.out, E2.out, if_pos (by omega), if_pos (by omega)]
        by_cases c3 : rd d ((at' + k : Nat) : Int) = 0
        · rw [if_pos c3, if_pos (⟨c, c2⟩ : k < t ∧ at' + k < d.length), if_pos c3]; exact ih fu (k + 1) acc (by omega) (by omega) h0 (by omega) (by omega)
        · rw [if_neg c3, if_pos (by omega), (or_bit acc k (by omega) h0 h1).1, if_pos (⟨c, c2⟩ : k < t ∧ at' + k < d.length), if_neg c3]; exact ih fu (k + 1) _ (by omega) (by omega) (by omega) (by omega) (by omega)
      · rw [if_neg (by rw [decide_eq_false (by omega)]; decide), if_neg (fun q => c2 q.2)]
    · rw [if_neg (by omega)]
      simp only [delta_Key.j1]
      rw [if_neg (by decide), if_neg (fun q => c q.1)]
theorem refKey_l0 (d : List Int) (at' t : Nat) (hd : d.length ≤ 1000000) (ha : at' ≤ d.length) (ht : t ≤ 3) (m : Nat) : ∀ (fu k : Nat) (acc : Int), k + m = 4 → 2 * m < fu → 0 ≤ acc → acc < 2 ^ k → k ≤ t →
    tattingref12_Key.l0 fu d (at' : Int) (t : Int) acc (k : Int) = some (keyFrom d at' t m k acc) := by
  induction m with
  | zero => intro fu k acc hk hf h0 h1 h2; omega
  | succ m ih =>
    intro fu k acc hk hf h0 h1 h2
    obtain ⟨fu, rfl⟩ : ∃ q, fu = q + 2 := ⟨fu - 2, by omega⟩
    have hp : (2 : Int) ^ (k + 1) = 2 ^ k + 2 ^ k := by rw [Int.pow_succ]; omega
    have E1 := Aside0.mk (show wrap64 ((at' : Int) + (k : Int)) = ((at' + k : Nat) : Int) from by rw [wrap_id (by omega) (by omega)]; omega)
    have E2 := Aside0.mk (show wrap64 ((k : Int) + 1) = ((k + 1 : Nat) : Int) from wrap_succ (by omega))
    have E3 := Aside0.mk (show wrap64 ((d.length : Int) - (k : Int)) = (d.length : Int) - (k : Int) from wrap_id (by omega) (by omega))
    simp only [tattingref12_Key.l0]
    rw [keyFrom]
    by_cases c : k < t
    · rw [if_pos (by omega), E3.out]
      simp only [tattingref12_Key.j2]
      by_cases c2 : at' + k < d.length
      · rw [if_pos (by rw [decide_eq_true (by omega)]), E1.out, E2.out, if_pos (by omega), if_pos (by omega)]
        by_cases c3 : rd d ((at' + k : Nat) : Int) = 0
        · rw [if_pos c3, if_pos (⟨c, c2⟩ : k < t ∧ at' + k < d.length), if_pos c3]; exact ih fu (k + 1) acc (by omega) (by omega) h0 (by omega) (by omega)
        · have q := or_bit acc k (by omega) h0 h1
          rw [if_neg c3, if_pos q.2.2, q.2.1, if_pos (⟨c, c2⟩ : k < t ∧ at' + k < d.length), if_neg c3]; exact ih fu (k + 1) _ (by omega) (by omega) (by omega) (by omega) (by omega)
      · rw [if_neg (by rw [decide_eq_false (by omega)]; decide), if_neg (fun q => c2 q.2)]
    · rw [if_neg (by omega)]
      simp only [tattingref12_Key.j2]
      rw [if_neg (by decide), if_neg (fun q => c q.1)]
/-- The key that is there. -/
def keySpec (d : List Int) (a t : Int) : Int := if a < 0 ∨ t < 1 ∨ t > 3 then 0 else keyFrom d a.toNat t.toNat 4 0 0
theorem looks_f (d : List Int) (a t : Int) : delta_looks.f d a t = some (decide (0 ≤ a ∧ a < (d.length : Int) ∧ 1 ≤ t ∧ t ≤ 3)) := by
  unfold delta_looks.f
  by_cases c0 : a ≥ 0
  · rw [if_pos c0]
    by_cases c1 : a < (d.length : Int)
    · rw [if_pos c1]
      by_cases c2 : t ≥ 1
      · rw [if_pos c2]; congr 1; rw [decide_eq_decide]; omega
      · rw [if_neg c2, decide_eq_false (by omega)]
    · rw [if_neg c1, decide_eq_false (by omega)]
  · rw [if_neg c0, decide_eq_false (by omega)]
theorem keyFrom_out (d : List Int) (a t m : Nat) (acc : Int) (h : d.length ≤ a) : keyFrom d a t m 0 acc = acc := by
  cases m with
  | zero => rfl
  | succ m => rw [keyFrom, if_neg (by omega)]
theorem deltaKey (d : List Int) (hd : d.length ≤ 1000000) (a t : Int) {k : Nat} (hk : 10 < k) : delta_Key.f k d a t = some (keySpec d a t) := by
  unfold delta_Key.f keySpec
  rw [looks_f, Option.bind_some]
  by_cases c : 0 ≤ a ∧ a < (d.length : Int) ∧ 1 ≤ t ∧ t ≤ 3
  · rw [decide_eq_true c, if_pos rfl, if_neg (by omega)]
    have h := deltaKey_l0 d a.toNat t.toNat hd (by omega) (by omega) 4 k 0 0 (by omega) (by omega) (by omega) (by decide) (by omega)
    rw [Int.toNat_of_nonneg (by omega), Int.toNat_of_nonneg (by omega)] at h; exact h
  · rw [decide_eq_false c, if_neg (by decide)]
    by_cases c2 : a < 0 ∨ t < 1 ∨ t > 3
    · rw [if_pos c2]
    · rw [if_neg c2, keyFrom_out _ _ _ _ _ (by omega)]

/-- The steps with a key put there, from some bit on. -/
def putFrom (n at' t : Nat) (key : Int) : Nat → Nat → List Int → List Int
  | 0, _, p => p
  | m + 1, k, p => if k < t ∧ at' + k < n then putFrom n at' t key m (k + 1) (p.set (at' + k) (Go.bits .and .i64 (shr .i64 key (k : Int)) 1 % 256)) else p
theorem cloneB (l : List Int) (h : l.length ≤ 1000000) : slices_Clone_byte_byte.f l = some l := by unfold slices_Clone_byte_byte.f; rw [if_pos (by omega)]
theorem deltaPut_l0 (n : Nat) (hn : n ≤ 1000000) (at' t : Nat) (ha : at' ≤ n) (ht : t ≤ 3) (key : Int) (m : Nat) : ∀ (fu k : Nat) (p : List Int), k + m = 4 → m < fu → k ≤ t → p.length = n →
    delta_Put.l0 fu (at' : Int) (t : Int) key p (k : Int) = some (putFrom n at' t key m k p) := by
  induction m with
  | zero => intro fu k p hk hf h2 hp; omega
  | succ m ih =>
    intro fu k p hk hf h2 hp
    obtain ⟨fu, rfl⟩ : ∃ q, fu = q + 1 := ⟨fu - 1, by omega⟩
    have E1 := Aside0.mk (show wrap64 ((at' : Int) + (k : Int)) = ((at' + k : Nat) : Int) from by rw [wrap_id (by omega) (by omega)]; omega)
    have E2 := Aside0.mk (show wrap64 ((k : Int) + 1) = ((k + 1 : Nat) : Int) from wrap_succ (by omega))
    simp only [delta_Put.l0]
    rw [E1.out, E2.out, putFrom]
    by_cases c : k < t
    · by_cases c2 : at' + k < n
      · rw [if_pos (by omega), if_pos (by omega), if_pos (by omega), if_pos (by omega), Int.toNat_natCast, if_pos (⟨c, c2⟩ : k < t ∧ at' + k < n)]
        exact ih fu (k + 1) _ (by omega) (by omega) (by omega) (by rw [List.length_set]; exact hp)
      · rw [if_pos (by omega), if_neg (by omega), if_neg (fun q => c2 q.2)]
    · rw [if_neg (by omega), if_neg (fun q => c q.1)]
/-- The steps with a key put there. -/
def putSpec (d : List Int) (a t key : Int) : List Int := if a < 0 ∨ t < 1 ∨ t > 3 then d else putFrom d.length a.toNat t.toNat key 4 0 d
theorem putFrom_out (n a t m : Nat) (key : Int) (p : List Int) (h : n ≤ a) : putFrom n a t key m 0 p = p := by
  cases m with
  | zero => rfl
  | succ m => rw [putFrom, if_neg (by omega)]
theorem deltaPut (d : List Int) (hd : d.length ≤ 1000000) (a t key : Int) {k : Nat} (hk : 10 < k) : delta_Put.f k d a t key = some (putSpec d a t key) := by
  unfold delta_Put.f putSpec
  rw [cloneB d hd, Option.bind_some, looks_f, Option.bind_some]
  by_cases c : 0 ≤ a ∧ a < (d.length : Int) ∧ 1 ≤ t ∧ t ≤ 3
  · rw [decide_eq_true c, if_pos rfl, if_neg (by omega)]
    have h := deltaPut_l0 d.length hd a.toNat t.toNat (by omega) (by omega) key 4 k 0 d (by omega) (by omega) (by omega) rfl
    rw [Int.toNat_of_nonneg (by omega), Int.toNat_of_nonneg (by omega)] at h; exact h
  · rw [decide_eq_false c, if_neg (by decide)]
    by_cases c2 : a < 0 ∨ t < 1 ∨ t > 3
    · rw [if_pos c2]
    · rw [if_neg c2, putFrom_out _ _ _ _ _ _ (by omega)]

theorem awake : tattinglaw12_awake.f 60 = some true := by decide +kernel
theorem same_refl (l : List Int) : tattingref1_Same.f l l = some true := by unfold tattingref1_Same.f; simp
theorem refPut_l0 (d : List Int) (hn : d.length ≤ 1000000) (at' t : Nat) (ha : at' ≤ d.length) (ht : t ≤ 3) (key : Int) (m : Nat) : ∀ (fu k : Nat) (p : List Int), k + m = 4 → m < fu → k ≤ t → p.length = d.length →
    tattingref12_Put.l0 fu d (at' : Int) (t : Int) key p (k : Int) = some (putFrom d.length at' t key m k p) := by
  induction m with
  | zero => intro fu k p hk hf h2 hp; omega
  | succ m ih =>
    intro fu k p hk hf h2 hp
    obtain ⟨fu, rfl⟩ : ∃ q, fu = q + 1 := ⟨fu - 1, by omega⟩
    have E1 := Aside0.mk (show wrap64 ((at' : Int) + (k : Int)) = ((at' + k : Nat) : Int) from by rw [wrap_id (by omega) (by omega)]; omega)
    have E2 := Aside0.mk (show wrap64 ((k : Int) + 1) = ((k + 1 : Nat) : Int) from wrap_succ (by omega))
    have E3 := Aside0.mk (show wrap64 ((d.length : Int) - (k : Int)) = (d.length : Int) - (k : Int) from wrap_id (by omega) (by omega))
    have E4 := Aside0.mk (show IntKind.u64.wrap (k : Int) = (k : Int) from IntWalk.u64_in _ (by omega))
    simp only [tattingref12_Put.l0]
    rw [E1.out, E2.out, E3.out, E4.out, putFrom]
    by_cases c : k < t
    · by_cases c2 : at' + k < d.length
      · rw [if_pos (by omega), if_pos (by omega), if_pos (by omega), if_pos (by omega), if_pos (by omega), Int.toNat_natCast, if_pos (⟨c, c2⟩ : k < t ∧ at' + k < d.length)]
        exact ih fu (k + 1) _ (by omega) (by omega) (by omega) (by rw [List.length_set]; exact hp)
      · rw [if_pos (by omega), if_neg (by omega), if_neg (fun q => c2 q.2)]
    · rw [if_neg (by omega), if_neg (fun q => c q.1)]
theorem refPut_out (d p : List Int) (hd : d.length ≤ 1000000) (a t key : Int) (ha : (d.length : Int) ≤ a) (ht : 1 ≤ t) (fu : Nat) : tattingref12_Put.l0 (fu + 1) d a t key p 0 = some p := by
  simp only [tattingref12_Put.l0]
  rw [wrap_id (i := (d.length : Int) - 0) (by omega) (by omega), if_pos (by omega), if_neg (by omega)]
theorem refKey_out (d : List Int) (hd : d.length ≤ 1000000) (a t : Int) (ha : (d.length : Int) ≤ a) (ht : 1 ≤ t) (fu : Nat) : tattingref12_Key.l0 (fu + 2) d a t 0 0 = some 0 := by
  simp only [tattingref12_Key.l0]
  rw [wrap_id (i := (d.length : Int) - 0) (by omega) (by omega), if_pos (by omega), decide_eq_false (by omega)]
  simp only [tattingref12_Key.j2]
  rw [if_neg (by decide)]
theorem refKey (d : List Int) (hd : d.length ≤ 1000000) (a t : Int) {k : Nat} (hk : 12 < k) : tattingref12_Key.f k d a t = some (keySpec d a t) := by
  obtain ⟨k, rfl⟩ : ∃ q, k = q + 3 := ⟨k - 3, by omega⟩
  unfold tattingref12_Key.f keySpec
  have no : tattingref12_Key.j0 (k + 3) d a t true = some 0 := by simp [tattingref12_Key.j0]
  by_cases c0 : a < 0
  · rw [if_pos c0, if_pos (by omega), no]
  rw [if_neg c0]
  by_cases c1 : t < 1
  · rw [if_pos c1, if_pos (by omega), no]
  rw [if_neg c1]
  by_cases c2 : t > 3
  · rw [decide_eq_true c2, if_pos (by omega), no]
  rw [decide_eq_false c2, if_neg (by omega)]
  simp only [tattingref12_Key.j0]
  rw [if_neg (by decide)]
  by_cases c3 : a < (d.length : Int)
  · have h := refKey_l0 d a.toNat t.toNat hd (by omega) (by omega) 4 (k + 2) 0 0 (by omega) (by omega) (by omega) (by decide) (by omega)
    rw [Int.toNat_of_nonneg (by omega), Int.toNat_of_nonneg (by omega)] at h; exact h
  · rw [keyFrom_out _ _ _ _ _ (by omega), refKey_out d hd a t (by omega) (by omega)]
theorem refPut (d : List Int) (hd : d.length ≤ 1000000) (a t key : Int) {k : Nat} (hk : 12 < k) : tattingref12_Put.f k d a t key = some (putSpec d a t key) := by
  obtain ⟨k, rfl⟩ : ∃ q, k = q + 2 := ⟨k - 2, by omega⟩
  unfold tattingref12_Put.f putSpec
  have no : tattingref12_Put.j0 (k + 2) d a t key ([] ++ d) true = some d := by simp [tattingref12_Put.j0]
  rw [Option.bind_some, if_pos (show ([] : List Int).length + d.length < 140737488355328 by rw [List.length_nil]; omega), Option.bind_some]
  by_cases c0 : a < 0
  · rw [if_pos c0, if_pos (by omega), no]
  rw [if_neg c0]
  by_cases c1 : t < 1
  · rw [if_pos c1, if_pos (by omega), no]
  rw [if_neg c1]
  by_cases c2 : t > 3
  · rw [decide_eq_true c2, if_pos (by omega), no]
  rw [decide_eq_false c2, if_neg (by omega)]
  simp only [tattingref12_Put.j0]
  rw [if_neg (by decide), List.nil_append]
  by_cases c3 : a < (d.length : Int)
  · have h := refPut_l0 d hd a.toNat t.toNat (by omega) (by omega) key 4 (k + 1) 0 d (by omega) (by omega) (by omega) rfl
    rw [Int.toNat_of_nonneg (by omega), Int.toNat_of_nonneg (by omega)] at h; exact h
  · rw [putFrom_out _ _ _ _ _ _ (by omega), refPut_out d d hd a t key (by omega) (by omega)]
theorem DeltaKeys : tattinglaw12_DeltaKeys.Pure := by
  intro d a t key _ _ _ wa wt wk
  refine ⟨1000, ?_⟩
  unfold tattinglaw12_DeltaKeys.f
  rw [at_rounds tattinglaw12_awake.mono (by decide) awake, Option.bind_some, if_pos rfl]
  by_cases h1 : (d.length : Int) > 60
  · rw [if_pos h1]
  rw [if_neg h1, deltaKey d (by omega) a t (by omega), Option.bind_some, refKey d (by omega) a t (by omega), Option.bind_some, if_pos rfl, deltaPut d (by omega) a t key (by omega), Option.bind_some, refPut d (by omega) a t key (by omega), Option.bind_some, same_refl, Option.bind_some]

end Go.Proofs.Ytjplieecdfbbjaa.Pure
