/- Of every two lengths how many steps by halves there are at most. -/
import Derived.Test.YtpedlelgeeignaaPHalveMostx4
import Derived.Test.YtpedlelgeeignaaWSized
namespace Go.Proofs.Ytpedlelgeeignaa.PrintWords
set_option linter.defProp false in
/-- The printed row names this lemma without the seat-wide namespace. -/
def sized_ints := @Go.Proofs.YtpedlelgeeignaaW.PrintWords.sized_ints
end Go.Proofs.Ytpedlelgeeignaa.PrintWords
namespace Go.Proofs.Ytpedlelgeeignaa.Pure
open Go.RowKit Go.Proofs.Ytpedlelgeeignaa.PHalveMost Go.Proofs.YtpedlelgeeignaaW.PrintWords Go.Proofs.YtpedlelgeeignaaW.PrintLast Go.Proofs.YtpedlelgeeignaaW.PrintMore
set_option linter.unusedVariables false
set_option linter.unusedSimpArgs false

theorem wrap_id {i : Int} (h0 : -9223372036854775808 ≤ i) (h1 : i < 9223372036854775808) : wrap64 i = i := by unfold wrap64; omega
theorem wrap_succ {n : Nat} (h : n < 9223372036854775807) : wrap64 ((n : Int) + 1) = ((n + 1 : Nat) : Int) := by unfold wrap64; omega

theorem rd_at (l : List Int) {n : Nat} (h : n < l.length) : rd l (n : Int) = l[n] := by
  unfold rd; rw [Int.toNat_natCast, List.getD_eq_getElem?_getD, List.getElem?_eq_getElem h]; rfl
theorem rd_d (l : List Int) (n : Nat) : rd l (n : Int) = l.getD n 0 := rfl
theorem rd_out (l : List Int) {n : Nat} (h : l.length ≤ n) : rd l (n : Int) = 0 := by
  rw [rd_d, List.getD_eq_getElem?_getD, List.getElem?_eq_none h]; rfl
theorem drop_rd (l : List Int) {n : Nat} (h : n < l.length) : l.drop n = rd l (n : Int) :: l.drop (n + 1) := by
  rw [rd_at l h]; exact List.drop_eq_getElem_cons h
theorem take_rd (l : List Int) {n : Nat} (h : n < l.length) : l.take (n + 1) = l.take n ++ [rd l (n : Int)] := by
  rw [rd_at l h, List.take_succ_eq_append_getElem h]
theorem rd_mem (l : List Int) {n : Nat} (h : n < l.length) : rd l (n : Int) ∈ l := by rw [rd_at l h]; exact List.getElem_mem h
theorem rd_app_lt (l : List Int) (x : Int) {n : Nat} (h : n < l.length) : rd (l ++ [x]) (n : Int) = rd l (n : Int) := by
  rw [rd_at _ (by rw [List.length_append]; omega), rd_at _ h, List.getElem_append_left h]
theorem rd_app_eq (l : List Int) (x : Int) : rd (l ++ [x]) (l.length : Int) = x := by
  rw [rd_at _ (by rw [List.length_append, List.length_singleton]; omega)]; simp
theorem rd_app (l : List Int) (x : Int) (n : Nat) (h : n ≤ l.length) : rd (l ++ [x]) (n : Int) = if n = l.length then x else rd l (n : Int) := by
  by_cases e : n = l.length
  · rw [if_pos e, e, rd_app_eq]
  · rw [if_neg e, rd_app_lt _ _ (by omega)]
theorem rd_set (l : List Int) (i n : Nat) (x : Int) (h : n < l.length) : rd (l.set i x) (n : Int) = if n = i then x else rd l (n : Int) := by
  rw [rd_at _ (by rw [List.length_set]; exact h), rd_at _ h, List.getElem_set]
  by_cases e : n = i
  · rw [if_pos e, if_pos e.symm]
  · rw [if_neg e, if_neg (fun q => e q.symm)]
theorem rd_replicate (m n : Nat) (x : Int) (h : n < m) : rd (List.replicate m x) (n : Int) = x := by
  rw [rd_at _ (by rw [List.length_replicate]; exact h), List.getElem_replicate]
theorem rd_take (l : List Int) {m n : Nat} (h : n < m) (hm : m ≤ l.length) : rd (l.take m) (n : Int) = rd l (n : Int) := by
  rw [rd_at _ (by rw [List.length_take]; omega), rd_at _ (by omega), List.getElem_take]
theorem rd_drop (l : List Int) (m n : Nat) : rd (l.drop m) (n : Int) = rd l ((m + n : Nat) : Int) := by
  rw [rd_d, rd_d, List.getD_eq_getElem?_getD, List.getD_eq_getElem?_getD, List.getElem?_drop]
theorem list_ext {l m : List Int} (h : l.length = m.length) (k : ∀ n : Nat, n < l.length → rd l (n : Int) = rd m (n : Int)) : l = m := by
  apply List.ext_getElem h
  intro i h1 h2
  have := k i h1
  rwa [rd_at _ h1, rd_at _ h2] at this
theorem wf64 {a : Int} (h : (Lit.int .i64 a).wf = true) : -9223372036854775808 ≤ a ∧ a ≤ 9223372036854775807 := by
  simp only [Lit.wf, IntKind.min, IntKind.max, IntKind.signed, IntKind.bits, Bool.and_eq_true, decide_eq_true_eq, if_true] at h
  omega
/-- At least one round. -/
theorem round {k d : Nat} (h : d < k) : ∃ m, k = m + 1 := ⟨k - 1, by omega⟩

theorem refBits_l0 (f : Nat) : ∀ (x n k : Nat), x < 2 ^ f → x < 4611686018427387904 → f < k → n + f ≤ 1000 → tattingref7_Bits.l0 k (n : Int) (x : Int) = some ((n + Lib.bitLenAux f x : Nat) : Int) := by
  induction f with
  | zero =>
    intro x n k hx hb hk hn
    obtain ⟨k, rfl⟩ := round hk
    have hx0 : x = 0 := by rw [Nat.pow_zero] at hx; omega
    simp only [tattingref7_Bits.l0]
    rw [if_neg (by omega)]
    rfl
  | succ f ih =>
    intro x n k hx hb hk hn
    obtain ⟨k, rfl⟩ : ∃ m, k = m + 1 := ⟨k - 1, by omega⟩
    simp only [tattingref7_Bits.l0]
    by_cases c : x = 0
    · rw [if_neg (by omega)]
      rw [Lib.bitLenAux, if_pos c]; rfl
    · rw [if_pos (by omega)]
      rw [Nat.pow_succ] at hx
      have e : Int.tdiv (x : Int) 2 = ((x / 2 : Nat) : Int) := by rw [Int.tdiv_eq_ediv_of_nonneg (by omega)]; omega
      rw [wrap_succ (by omega), e, wrap_id (i := ((x / 2 : Nat) : Int)) (by omega) (by omega), ih (x / 2) (n + 1) k (by omega) (by omega) (by omega) (by omega)]
      rw [Lib.bitLenAux, if_neg c]
      congr 1; omega
theorem refBits (x : Nat) (h : x < 4611686018427387904) {k : Nat} (hk : 64 < k) : tattingref7_Bits.f k (x : Int) = some ((Lib.bitLen x : Nat) : Int) := by
  have := refBits_l0 64 x 0 k (by omega) h hk (by omega)
  rw [Nat.zero_add] at this
  exact this

theorem bitsLen (x : Nat) (h : x < 4611686018427387904) : bits_Len.f (IntKind.u64.wrap (x : Int)) = some ((Lib.bitLen x : Nat) : Int) := by
  have e : IntKind.u64.wrap (x : Int) = (x : Int) := by
    simp [IntKind.wrap, IntKind.signed, IntKind.bits]
    omega
  unfold bits_Len.f
  rw [e, if_pos (by omega), Int.toNat_natCast]

theorem awake : tattinglaw11_awake.f 60 = some true := by decide +kernel
theorem HalveMost : tattinglaw11_HalveMost.Pure := by
  intro n m _ _
  refine ⟨100, ?_⟩
  unfold tattinglaw11_HalveMost.f
  rw [at_rounds tattinglaw11_awake.mono (by decide) awake, Option.bind_some, if_pos rfl]
  unfold halve_Most.f tattingref7_MostHalves.f
  by_cases h1 : n < 1
  · rw [if_pos h1, if_pos h1]; rfl
  rw [if_neg h1, if_neg h1]
  by_cases h2 : m < 1
  · by_cases h3 : n > 1048576
    · rw [if_pos h3, if_pos h2]; rfl
    · rw [if_neg h3, if_pos h2, if_pos h2]; rfl
  by_cases h3 : n > 1048576
  · rw [if_pos h3, if_neg h2, if_pos h3]; rfl
  rw [if_neg h3, if_neg h2, if_neg h2, if_neg h3]
  by_cases h4 : m > 1048576
  · rw [if_pos h4, if_pos h4]; rfl
  rw [if_neg h4, if_neg h4]
  obtain ⟨x, rfl⟩ : ∃ x : Nat, n = (x : Int) := ⟨n.toNat, by omega⟩
  rw [bitsLen x (by omega), Option.bind_some, refBits x (by omega) (by omega), Option.bind_some, Option.bind_some]
  simp

end Go.Proofs.Ytpedlelgeeignaa.Pure
