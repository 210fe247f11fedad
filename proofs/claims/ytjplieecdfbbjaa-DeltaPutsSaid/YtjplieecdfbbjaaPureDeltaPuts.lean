/- For every list of 3 to 60 steps, every place and side that fit, every key of a byte: as many steps, the key that was put is found there, and what is ahead of it and behind it is as before. -/
import Derived.Test.YtjplieecdfbbjaaPDeltaPutsx2
import Derived.Test.YtjplieecdfbbjaaWSized
namespace Go.Proofs.Ytjplieecdfbbjaa.PrintWords
set_option linter.defProp false in
/-- The printed row names this lemma without the seat-wide namespace. -/
def sized_ints := @Go.Proofs.YtjplieecdfbbjaaW.PrintWords.sized_ints
end Go.Proofs.Ytjplieecdfbbjaa.PrintWords
namespace Go.Proofs.Ytjplieecdfbbjaa.Pure
open Go.RowKit Go.Proofs.Ytjplieecdfbbjaa.PDeltaPuts Go.Proofs.YtjplieecdfbbjaaW.PrintWords Go.Proofs.YtjplieecdfbbjaaW.PrintLast Go.Proofs.YtjplieecdfbbjaaW.PrintMore
set_option linter.unusedVariables false
set_option linter.unusedSimpArgs false

theorem wrap_id {i : Int} (h0 : -9223372036854775808 ≤ i) (h1 : i < 9223372036854775808) : wrap64 i = i := by unfold wrap64; omega
theorem wrap_succ {n : Nat} (h : n < 9223372036854775807) : wrap64 ((n : Int) + 1) = ((n + 1 : Nat) : Int) := by unfold wrap64; omega

theorem rd_at (l : List Int) {n : Nat} (h : n < l.length) : rd l (n : Int) = l[n] := by
  unfold rd; rw [Int.toNat_natCast, List.getD_eq_getElem?_getD, List.getElem?_eq_getElem h]; rfl
theorem rd_d (l : List Int) (n : Nat) : rd l (n : Int) = l.getD n 0 := rfl
theorem rd_out (l : List Int) {n : Nat} (h : l.length ≤ n) : rd l (n : Int) = 0 := by
  rw [rd_d, List.getD_eq_getElem?_getD, List.getElem?_eq_none h]; rfl
theorem drop_rd (l : List Int) {n : Nat} (h : n < l.length) : l.drop n = rd l (n : Int) :: l.drop (n + 1) := by
  rw [rd_at l h]; exact List.drop_eq_getElem_cons h
theorem take_rd (l : List Int) {n : Nat} (h : n < l.length) : l.take (n + 1) = l.take n ++ [rd l (n : Int)] := by
  rw [rd_at l h, List.take_succ_eq_append_getElem h]
theorem rd_mem (l : List Int) {n : Nat} (h : n < l.length) : rd l (n : Int) ∈ l := by rw [rd_at l h]; exact List.getElem_mem h
theorem rd_app_lt (l : List Int) (x : Int) {n : Nat} (h : n < l.length) : rd (l ++ [x]) (n : Int) = rd l (n : Int) := by
  rw [rd_at _ (by rw [List.length_append]; omega), rd_at _ h, List.getElem_append_left h]
theorem rd_app_eq (l : List Int) (x : Int) : rd (l ++ [x]) (l.length : Int) = x := by
  rw [rd_at _ (by rw [List.length_append, List.length_singleton]; omega)]; simp
theorem rd_app (l : List Int) (x : Int) (n : Nat) (h : n ≤ l.length) : rd (l ++ [x]) (n : Int) = if n = l.length then x else rd l (n : Int) := by
  by_cases e : n = l.length
  · rw [if_pos e, e, rd_app_eq]
  · rw [if_neg e, rd_app_lt _ _ (by omega)]
theorem rd_set (l : List Int) (i n : Nat) (x : Int) (h : n < l.length) : rd (l.set i x) (n : Int) = if n = i then x else rd l (n : Int) := by
  rw [rd_at _ (by rw [List.length_set]; exact h), rd_at _ h, List.getElem_set]
  by_cases e : n = i
  · rw [if_pos e, if_pos e.symm]
  · rw [if_neg e, if_neg (fun q => e q.symm)]
theorem rd_replicate (m n : Nat) (x : Int) (h : n < m) : rd (List.replicate m x) (n : Int) = x := by
  rw [rd_at _ (by rw [List.length_replicate]; exact h), List.getElem_replicate]
theorem rd_take (l : List Int) {m n : Nat} (h : n < m) (hm : m ≤ l.length) : rd (l.take m) (n : Int) = rd l (n : Int) := by
  rw [rd_at _ (by rw [List.length_take]; omega), rd_at _ (by omega), List.getElem_take]
theorem rd_drop (l : List Int) (m n : Nat) : rd (l.drop m) (n : Int) = rd l ((m + n : Nat) : Int) := by
  rw [rd_d, rd_d, List.getD_eq_getElem?_getD, List.getD_eq_getElem?_getD, List.getElem?_drop]
theorem list_ext {l m : List Int} (h : l.length = m.length) (k : ∀ n : Nat, n < l.length → rd l (n : Int) = rd m (n : Int)) : l = m := by
  apply List.ext_getElem h
  intro i h1 h2
  have := k i h1
  rwa [rd_at _ h1, rd_at _ h2] at this
theorem wf64 {a : Int} (h : (Lit.int .i64 a).wf = true) : -9223372036854775808 ≤ a ∧ a ≤ 9223372036854775807 := by
  simp only [Lit.wf, IntKind.min, IntKind.max, IntKind.signed, IntKind.bits, Bool.and_eq_true, decide_eq_true_eq, if_true] at h
  omega
/-- At least one round. -/
theorem round {k d : Nat} (h : d < k) : ∃ m, k = m + 1 := ⟨k - 1, by omega⟩

theorem or_bit (x : Int) (k : Nat) (hk : k < 3) (h0 : 0 ≤ x) (h1 : x < 2 ^ k) : Go.bits .or .i64 x (shl .i64 1 (k : Int)) = x + 2 ^ k ∧ wrap64 (x + shl .i64 1 (IntKind.u64.wrap (k : Int))) = x + 2 ^ k ∧ 0 ≤ IntKind.u64.wrap (k : Int) := by
  have all : ∀ k : Fin 3, ∀ x : Fin 4, (x.val < 2 ^ k.val) → (Go.bits .or .i64 (x.val : Int) (shl .i64 1 (k.val : Int)) = (x.val : Int) + 2 ^ k.val ∧ wrap64 ((x.val : Int) + shl .i64 1 (IntKind.u64.wrap (k.val : Int))) = (x.val : Int) + 2 ^ k.val ∧ 0 ≤ IntKind.u64.wrap (k.val : Int)) := by decide +kernel
  have e : x = ((x.toNat : Nat) : Int) := by omega
  have hx : x.toNat < 2 ^ k := by
    have : ((x.toNat : Nat) : Int) < ((2 ^ k : Nat) : Int) := by rw [← e]; simpa using h1
    omega
  have h4 : x.toNat < 4 := by
    have : 2 ^ k ≤ 2 ^ 2 := Nat.pow_le_pow_right (by decide) (by omega)
    omega
  have h := all ⟨k, hk⟩ ⟨x.toNat, h4⟩ hx
  simp only at h
  rw [← e] at h; exact h
/-- The key of some steps, from some place on. -/
def keyFrom (d : List Int) (at' : Nat) (t : Nat) : Nat → Nat → Int → Int
  | 0, _, acc => acc
  | m + 1, k, acc => if k < t ∧ at' + k < d.length then keyFrom d at' t m (k + 1) (if rd d ((at' + k : Nat) : Int) = 0 then acc else acc + 2 ^ k) else acc
theorem deltaKey_l0 (d : List Int) (at' t : Nat) (hd : d.length ≤ 1000000) (ha : at' ≤ d.length) (ht : t ≤ 3) (m : Nat) : ∀ (fu k : Nat) (acc : Int), k + m = 4 → 2 * m < fu → 0 ≤ acc → acc < 2 ^ k → k ≤ t →
    delta_Key.l0 fu d (at' : Int) (t : Int) acc (k : Int) = some (keyFrom d at' t m k acc) := by
  induction m with
  | zero => intro fu k acc hk hf h0 h1 h2; omega
  | succ m ih =>
    intro fu k acc hk hf h0 h1 h2
    obtain ⟨fu, rfl⟩ : ∃ q, fu = q + 2 := ⟨fu - 2, by omega⟩
    have hp : (2 : Int) ^ (k + 1) = 2 ^ k + 2 ^ k := by rw [Int.pow_succ]; omega
    have E1 := Aside0.mk (show wrap64 ((at' : Int) + (k : Int)) = ((at' + k : Nat) : Int) from by rw [wrap_id (by omega) (by omega)]; omega)
    have E2 := Aside0.mk (show wrap64 ((k : Int) + 1) = ((k + 1 : Nat) : Int) from wrap_succ (by omega))
    simp only [delta_Key.l0]
    rw [keyFrom]
    by_cases c : k < t
    · rw [if_pos (by omega), E1.out]
      simp only [delta_Key.j1]
      by_cases c2 : at' + k < d.length
      · rw [if_pos (by rw [decide_eq_true (by omega)]), E1.out, E2.out, if_pos (by omega), if_pos (by omega)]
        by_cases c3 : rd d ((at' + k : Nat) : Int) = 0
        · rw [if_pos c3, if_pos (⟨c, c2⟩ : k < t ∧ at' + k < d.length), if_pos c3]; exact ih fu (k + 1) acc (by omega) (by omega) h0 (by omega) (by omega)
        · rw [if_neg c3, if_pos (by omega), (or_bit acc k (by omega) h0 h1).1, if_pos (⟨c, c2⟩ : k < t ∧ at' + k < d.length), if_neg c3]; exact ih fu (k + 1) _ (by omega) (by omega) (by omega) (by omega) (by omega)
      · rw [if_neg (by rw [decide_eq_false (by omega)]; decide), if_neg (fun q => c2 q.2)]
    · rw [if_neg (by omega)]
      simp only [delta_Key.j1]
      rw [if_neg (by decide), if_neg (fun q => c q.1)]
/-- The key that is there. -/
def keySpec (d : List Int) (a t : Int) : Int := if a < 0 ∨ t < 1 ∨ t > 3 then 0 else keyFrom d a.toNat t.toNat 4 0 0
theorem looks_f (d : List Int) (a t : Int) : delta_looks.f d a t = some (decide (0 ≤ a ∧ a < (d.length : Int) ∧ 1 ≤ t ∧ t ≤ 3)) := by
  unfold delta_looks.f
  by_cases c0 : a ≥ 0
  · rw [if_pos c0]
    by_cases c1 : a < (d.length : Int)
    · rw [if_pos c1]
      by_cases c2 : t ≥ 1
      · rw [if_pos c2]; congr 1; rw [decide_eq_decide]; omega
      · rw [if_neg c2, decide_eq_false (by omega)]
    · rw [if_neg c1, decide_eq_false (by omega)]
  · rw [if_neg c0, decide_eq_false (by omega)]
theorem keyFrom_out (d : List Int) (a t m : Nat) (acc : Int) (h : d.length ≤ a) : keyFrom d a t m 0 acc = acc := by
  cases m with
  | zero => rfl
  | succ m => rw [keyFrom, if_neg (by omega)]
theorem deltaKey (d : List Int) (hd : d.length ≤ 1000000) (a t : Int) {k : Nat} (hk : 10 < k) : delta_Key.f k d a t = some (keySpec d a t) := by
  unfold delta_Key.f keySpec
  rw [looks_f, Option.bind_some]
  by_cases c : 0 ≤ a ∧ a < (d.length : Int) ∧ 1 ≤ t ∧ t ≤ 3
  · rw [decide_eq_true c, if_pos rfl, if_neg (by omega)]
    have h := deltaKey_l0 d a.toNat t.toNat hd (by omega) (by omega) 4 k 0 0 (by omega) (by omega) (by omega) (by decide) (by omega)
    rw [Int.toNat_of_nonneg (by omega), Int.toNat_of_nonneg (by omega)] at h; exact h
  · rw [decide_eq_false c, if_neg (by decide)]
    by_cases c2 : a < 0 ∨ t < 1 ∨ t > 3
    · rw [if_pos c2]
    · rw [if_neg c2, keyFrom_out _ _ _ _ _ (by omega)]

/-- The steps with a key put there, from some bit on. -/
def putFrom (n at' t : Nat) (key : Int) : Nat → Nat → List Int → List Int
  | 0, _, p => p
  | m + 1, k, p => if k < t ∧ at' + k < n then putFrom n at' t key m (k + 1) (p.set (at' + k) (Go.bits .and .i64 (shr .i64 key (k : Int)) 1 % 256)) else p
theorem cloneB (l : List Int) (h : l.length ≤ 1000000) : slices_Clone_byte_byte.f l = some l := by unfold slices_Clone_byte_byte.f; rw [if_pos (by omega)]
theorem deltaPut_l0 (n : Nat) (hn : n ≤ 1000000) (at' t : Nat) (ha : at' ≤ n) (ht : t ≤ 3) (key : Int) (m : Nat) : ∀ (fu k : Nat) (p : List Int), k + m = 4 → m < fu → k ≤ t → p.length = n →
    delta_Put.l0 fu (at' : Int) (t : Int) key p (k : Int) = some (putFrom n at' t key m k p) := by
  induction m with
  | zero => intro fu k p hk hf h2 hp; omega
  | succ m ih =>
    intro fu k p hk hf h2 hp
    obtain ⟨fu, rfl⟩ : ∃ q, fu = q + 1 := ⟨fu - 1, by omega⟩
    have E1 := Aside0.mk (show wrap64 ((at' : Int) + (k : Int)) = ((at' + k : Nat) : Int) from by rw [wrap_id (by omega) (by omega)]; omega)
    have E2 := Aside0.mk (show wrap64 ((k : Int) + 1) = ((k + 1 : Nat) : Int) from wrap_succ (by omega))
    simp only [delta_Put.l0]
    rw [E1.out, E2.out, putFrom]
    by_cases c : k < t
    · by_cases c2 : at' + k < n
      · rw [if_pos (by omega), if_pos (by omega), if_pos (by omega), if_pos (by omega), Int.toNat_natCast, if_pos (⟨c, c2⟩ : k < t ∧ at' + k < n)]
        exact ih fu (k + 1) _ (by omega) (by omega) (by omega) (by rw [List.length_set]; exact hp)
      · rw [if_pos (by omega), if_neg (by omega), if_neg (fun q => c2 q.2)]
    · rw [if_neg (by omega), if_neg (fun q => c q.1)]
/-- The steps with a key put there. -/
def putSpec (d : List Int) (a t key : Int) : List Int := if a < 0 ∨ t < 1 ∨ t > 3 then d else putFrom d.length a.toNat t.toNat key 4 0 d
theorem putFrom_out (n a t m : Nat) (key : Int) (p : List Int) (h : n ≤ a) : putFrom n a t key m 0 p = p := by
  cases m with
  | zero => rfl
  | succ m => rw [putFrom, if_neg (by omega)]
theorem deltaPut (d : List Int) (hd : d.length ≤ 1000000) (a t key : Int) {k : Nat} (hk : 10 < k) : delta_Put.f k d a t key = some (putSpec d a t key) := by
  unfold delta_Put.f putSpec
  rw [cloneB d hd, Option.bind_some, looks_f, Option.bind_some]
  by_cases c : 0 ≤ a ∧ a < (d.length : Int) ∧ 1 ≤ t ∧ t ≤ 3
  · rw [decide_eq_true c, if_pos rfl, if_neg (by omega)]
    have h := deltaPut_l0 d.length hd a.toNat t.toNat (by omega) (by omega) key 4 k 0 d (by omega) (by omega) (by omega) rfl
    rw [Int.toNat_of_nonneg (by omega), Int.toNat_of_nonneg (by omega)] at h; exact h
  · rw [decide_eq_false c, if_neg (by decide)]
    by_cases c2 : a < 0 ∨ t < 1 ∨ t > 3
    · rw [if_pos c2]
    · rw [if_neg c2, putFrom_out _ _ _ _ _ _ (by omega)]

theorem awake : tattinglaw12_awake.f 60 = some true := by decide +kernel
theorem same_refl (l : List Int) : tattingref1_Same.f l l = some true := by unfold tattingref1_Same.f; simp
theorem put_bits : ∀ k : Fin 3, ∀ key : Fin 256, Go.bits .and .i64 (shr .i64 (key.val : Int) (k.val : Int)) 1 % 256 = ((key.val / 2 ^ k.val % 2 : Nat) : Int) := by decide +kernel
theorem put_bit (k key : Nat) (hk : k < 3) (h : key < 256) : Go.bits .and .i64 (shr .i64 (key : Int) (k : Int)) 1 % 256 = ((key / 2 ^ k % 2 : Nat) : Int) := put_bits ⟨k, hk⟩ ⟨key, h⟩
theorem puts1 (d : List Int) (a key : Nat) (ha : a + 1 ≤ d.length) (hk : key < 256) :
    putFrom d.length a 1 (key : Int) 4 0 d = d.set a ((key % 2 : Nat) : Int) := by
  have B0 := put_bit 0 key (by omega) hk
  rw [show key / 2 ^ 0 % 2 = key % 2 from by rw [Nat.pow_zero, Nat.div_one]] at B0
  rw [putFrom, if_pos (by omega), B0, putFrom, if_neg (by omega)]; rfl
theorem puts2 (d : List Int) (a key : Nat) (ha : a + 2 ≤ d.length) (hk : key < 256) :
    putFrom d.length a 2 (key : Int) 4 0 d = (d.set a ((key % 2 : Nat) : Int)).set (a + 1) ((key / 2 % 2 : Nat) : Int) := by
  have B0 := put_bit 0 key (by omega) hk
  rw [show key / 2 ^ 0 % 2 = key % 2 from by rw [Nat.pow_zero, Nat.div_one]] at B0
  have B1 := put_bit 1 key (by omega) hk
  rw [putFrom, if_pos (by omega), B0, putFrom, if_pos (by omega), B1, putFrom, if_neg (by omega)]; rfl
theorem puts3 (d : List Int) (a key : Nat) (ha : a + 3 ≤ d.length) (hk : key < 256) :
    putFrom d.length a 3 (key : Int) 4 0 d = ((d.set a ((key % 2 : Nat) : Int)).set (a + 1) ((key / 2 % 2 : Nat) : Int)).set (a + 2) ((key / 4 % 2 : Nat) : Int) := by
  have B0 := put_bit 0 key (by omega) hk
  rw [show key / 2 ^ 0 % 2 = key % 2 from by rw [Nat.pow_zero, Nat.div_one]] at B0
  have B1 := put_bit 1 key (by omega) hk
  have B2 := put_bit 2 key (by omega) hk
  rw [putFrom, if_pos (by omega), B0, putFrom, if_pos (by omega), B1, putFrom, if_pos (by omega), B2, putFrom, if_neg (by omega)]; rfl
theorem keys (x : List Int) (a : Nat) (b0 b1 b2 : Nat) (t : Nat) (h1 : 1 ≤ t) (h3 : t ≤ 3) (ha : a + t ≤ x.length) (r0 : rd x ((a + 0 : Nat) : Int) = (b0 : Int)) (r1 : 2 ≤ t → rd x ((a + 1 : Nat) : Int) = (b1 : Int)) (r2 : 3 ≤ t → rd x ((a + 2 : Nat) : Int) = (b2 : Int))
    (l0 : b0 < 2) (l1 : b1 < 2) (l2 : b2 < 2) : keyFrom x a t 4 0 0 = ((if t = 1 then b0 else if t = 2 then b0 + 2 * b1 else b0 + 2 * b1 + 4 * b2 : Nat) : Int) := by
  have c : t = 1 ∨ t = 2 ∨ t = 3 := by omega
  have p0 : (2 : Int) ^ 0 = 1 := rfl
  have p1 : (2 : Int) ^ 1 = 2 := rfl
  have p2 : (2 : Int) ^ 2 = 4 := rfl
  rcases c with rfl | rfl | rfl
  · rw [keyFrom, if_pos (by omega), r0, keyFrom, if_neg (by omega), p0, if_pos rfl]
    split <;> omega
  · rw [keyFrom, if_pos (by omega), r0, keyFrom, if_pos (by omega), show 0 + 1 = 1 from rfl, r1 (by omega), keyFrom, if_neg (by omega), p0, p1, if_neg (show ¬ (2 : Nat) = 1 by decide), if_pos (show (2 : Nat) = 2 from rfl)]
    split <;> split <;> omega
  · rw [keyFrom, if_pos (by omega), r0, keyFrom, if_pos (by omega), show 0 + 1 = 1 from rfl, r1 (by omega), keyFrom, if_pos (by omega), show 1 + 1 = 2 from rfl, r2 (by omega), keyFrom, if_neg (by omega), p0, p1, p2, if_neg (show ¬ (3 : Nat) = 1 by decide), if_neg (show ¬ (3 : Nat) = 2 by decide)]
    split <;> split <;> split <;> omega
theorem puts (d : List Int) (a t key : Nat) (h1 : 1 ≤ t) (h3 : t ≤ 3) (ha : a + t ≤ d.length) (hk : key < 256) :
    (putFrom d.length a t (key : Int) 4 0 d).length = d.length ∧ keyFrom (putFrom d.length a t (key : Int) 4 0 d) a t 4 0 0 = ((key % 2 ^ t : Nat) : Int)
      ∧ (putFrom d.length a t (key : Int) 4 0 d).take a = d.take a ∧ (putFrom d.length a t (key : Int) 4 0 d).drop (a + t) = d.drop (a + t) := by
  have c : t = 1 ∨ t = 2 ∨ t = 3 := by omega
  rcases c with rfl | rfl | rfl
  · rw [puts1 d a key ha hk]
    refine ⟨by simp only [List.length_set], ?_, List.take_set_of_le (by omega), List.drop_set_of_lt (by omega)⟩
    rw [keys _ a (key % 2) 0 0 1 (by omega) (by omega) (by simp only [List.length_set]; omega) (by rw [rd_set _ _ _ _ (by omega), if_pos (by omega)]) (by omega) (by omega) (by omega) (by omega) (by omega), if_pos rfl]
  · rw [puts2 d a key ha hk]
    refine ⟨by simp only [List.length_set], ?_, by rw [List.take_set_of_le (by omega), List.take_set_of_le (by omega)], by rw [List.drop_set_of_lt (by omega), List.drop_set_of_lt (by omega)]⟩
    rw [keys _ a (key % 2) (key / 2 % 2) 0 2 (by omega) (by omega) (by simp only [List.length_set]; omega) (by rw [rd_set _ _ _ _ (by simp only [List.length_set]; omega), if_neg (by omega), rd_set _ _ _ _ (by omega), if_pos (by omega)])
      (fun _ => by rw [rd_set _ _ _ _ (by simp only [List.length_set]; omega), if_pos rfl]) (by omega) (by omega) (by omega) (by omega), if_neg (by decide), if_pos rfl, show 2 ^ 2 = 4 from rfl]; omega
  · rw [puts3 d a key ha hk]
    refine ⟨by simp only [List.length_set], ?_, by rw [List.take_set_of_le (by omega), List.take_set_of_le (by omega), List.take_set_of_le (by omega)], by rw [List.drop_set_of_lt (by omega), List.drop_set_of_lt (by omega), List.drop_set_of_lt (by omega)]⟩
    rw [keys _ a (key % 2) (key / 2 % 2) (key / 4 % 2) 3 (by omega) (by omega) (by simp only [List.length_set]; omega) (by rw [rd_set _ _ _ _ (by simp only [List.length_set]; omega), if_neg (by omega), rd_set _ _ _ _ (by simp only [List.length_set]; omega), if_neg (by omega), rd_set _ _ _ _ (by omega), if_pos (by omega)])
      (fun _ => by rw [rd_set _ _ _ _ (by simp only [List.length_set]; omega), if_neg (by omega), rd_set _ _ _ _ (by simp only [List.length_set]; omega), if_pos rfl]) (fun _ => by rw [rd_set _ _ _ _ (by simp only [List.length_set]; omega), if_pos rfl])
      (by omega) (by omega) (by omega), if_neg (by decide), if_neg (by decide), show 2 ^ 3 = 8 from rfl]; omega
theorem tmod_nat (a b : Nat) : Int.tmod (a : Int) (b : Int) = ((a % b : Nat) : Int) := by rw [Int.tmod_eq_emod_of_nonneg (by omega)]; exact (Int.natCast_emod a b).symm
theorem one_shl : ∀ t : Fin 4, shl .i64 1 (t.val : Int) = ((2 ^ t.val : Nat) : Int) := by decide +kernel
theorem j0_true (k : Nat) (d : List Int) (a t key : Int) : tattinglaw12_DeltaPuts.j0 (k + 1) d a t key true = some true := by simp only [tattinglaw12_DeltaPuts.j0]; rw [if_pos True.intro]
theorem j0_false (k : Nat) (hk : 20 < k) (d : List Int) (a1 a2 a3 : Nat) (h1 : a1 < 256) (h2 : a2 < 256) (h3 : a3 < 256) (hd : 3 ≤ d.length) (hd2 : d.length ≤ 60) :
    tattinglaw12_DeltaPuts.j0 (k + 2) d (a1 : Int) (a2 : Int) (a3 : Int) false = some true := by
  obtain ⟨t, ht⟩ : ∃ t, 1 + a2 % 3 = t := ⟨_, rfl⟩
  obtain ⟨m, hm⟩ : ∃ m, d.length - t + 1 = m := ⟨_, rfl⟩
  obtain ⟨a, haa⟩ : ∃ a, a1 % m = a := ⟨_, rfl⟩
  have ht1 : 1 ≤ t := by omega
  have ht3 : t ≤ 3 := by omega
  have hma : a < m := by rw [← haa]; exact Nat.mod_lt _ (by omega)
  have W1 := Aside0.mk (show wrap64 (a1 : Int) = (a1 : Int) from wrap_id (by omega) (by omega))
  have W2 := Aside0.mk (show wrap64 (a2 : Int) = (a2 : Int) from wrap_id (by omega) (by omega))
  have W3 := Aside0.mk (show wrap64 (a3 : Int) = (a3 : Int) from wrap_id (by omega) (by omega))
  have T := Aside0.mk (show wrap64 (1 + Int.tmod (a2 : Int) 3) = (t : Int) from by rw [show (3 : Int) = ((3 : Nat) : Int) from rfl, tmod_nat, wrap_id (by omega) (by omega)]; omega)
  have M := Aside0.mk (show wrap64 (wrap64 ((d.length : Int) - (t : Int)) + 1) = (m : Int) from by rw [wrap_id (i := (d.length : Int) - (t : Int)) (by omega) (by omega), wrap_id (by omega) (by omega)]; omega)
  have A := Aside0.mk (show Int.tmod (a1 : Int) (m : Int) = (a : Int) from by rw [tmod_nat, haa])
  have S := Aside0.mk (show IntKind.u64.wrap (t : Int) = (t : Int) from IntWalk.u64_in _ (by omega))
  have H := Aside0.mk (show shl .i64 1 (t : Int) = ((2 ^ t : Nat) : Int) from one_shl ⟨t, by omega⟩)
  have R := Aside0.mk (show Int.tmod (a3 : Int) ((2 ^ t : Nat) : Int) = ((a3 % 2 ^ t : Nat) : Int) from tmod_nat _ _)
  have E := Aside0.mk (show wrap64 ((a : Int) + (t : Int)) = ((a + t : Nat) : Int) from by rw [wrap_id (by omega) (by omega)]; omega)
  have pp : 0 < 2 ^ t := Nat.pow_pos (by decide)
  obtain ⟨p1, p2, p3, p4⟩ := puts d a t a3 ht1 ht3 (by omega) h3
  have hx : putSpec d (a : Int) (t : Int) (a3 : Int) = putFrom d.length a t (a3 : Int) 4 0 d := by unfold putSpec; rw [if_neg (by omega), Int.toNat_natCast, Int.toNat_natCast]
  have hy : keySpec (putFrom d.length a t (a3 : Int) 4 0 d) (a : Int) (t : Int) = ((a3 % 2 ^ t : Nat) : Int) := by unfold keySpec; rw [if_neg (by omega), Int.toNat_natCast, Int.toNat_natCast]; exact p2
  simp only [tattinglaw12_DeltaPuts.j0]
  rw [if_neg (by decide), W1.out, W2.out, W3.out, T.out, M.out, A.out, if_neg (by omega), deltaPut d (by omega) _ _ _ (by omega), Option.bind_some, hx, if_pos (by rw [p1]), deltaKey _ (by rw [p1]; omega) _ _ (by omega), Option.bind_some, hy, S.out, if_pos (by omega), H.out, if_neg (by omega), R.out]
  rw [show ((((a3 % 2 ^ t : Nat) : Int)) != ((a3 % 2 ^ t : Nat) : Int)) = false from by simp]
  simp only [tattinglaw12_DeltaPuts.j1]
  rw [if_neg (by decide), if_pos (by omega), if_pos (by rw [p1]; omega), if_pos (by omega), Int.toNat_natCast, p3, same_refl, Option.bind_some, if_pos rfl, E.out, if_pos (by omega), if_pos (by rw [p1]; omega), if_pos (by omega), Int.toNat_natCast, p4, same_refl, Option.bind_some]
theorem wf8 {a : Int} (h : (Lit.int .u8 a).wf = true) : 0 ≤ a ∧ a < 256 := by
  simp only [Lit.wf, IntKind.min, IntKind.max, IntKind.signed, IntKind.bits, Bool.and_eq_true, decide_eq_true_eq] at h
  revert h; simp; omega
theorem DeltaPuts : tattinglaw12_DeltaPuts.Pure := by
  intro d a t key _ _ _ wa wt wk
  have b1 := wf8 wa
  have b2 := wf8 wt
  have b3 := wf8 wk
  obtain ⟨a, rfl⟩ : ∃ n : Nat, a = (n : Int) := ⟨a.toNat, by omega⟩
  obtain ⟨t, rfl⟩ : ∃ n : Nat, t = (n : Int) := ⟨t.toNat, by omega⟩
  obtain ⟨key, rfl⟩ : ∃ n : Nat, key = (n : Int) := ⟨key.toNat, by omega⟩
  refine ⟨1000, ?_⟩
  unfold tattinglaw12_DeltaPuts.f
  rw [at_rounds tattinglaw12_awake.mono (by decide) awake, Option.bind_some, if_pos rfl]
  by_cases h1 : (d.length : Int) < 3
  · rw [if_pos h1]; exact j0_true 999 _ _ _ _
  rw [if_neg h1]
  by_cases h2 : (d.length : Int) > 60
  · rw [decide_eq_true h2]; exact j0_true 999 _ _ _ _
  · rw [decide_eq_false h2]; exact j0_false 998 (by omega) d a t key (by omega) (by omega) (by omega) (by omega) (by omega)

end Go.Proofs.Ytjplieecdfbbjaa.Pure
