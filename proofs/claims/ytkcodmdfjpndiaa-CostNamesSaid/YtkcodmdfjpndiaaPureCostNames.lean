/- Of every engine its name, of every name of at most 60 bytes its engine. -/
import Derived.Test.YtkcodmdfjpndiaaPCostNamesx4
import Derived.Test.YtkcodmdfjpndiaaWSized
namespace Go.Proofs.Ytkcodmdfjpndiaa.PrintWords
set_option linter.defProp false in
/-- The printed row names this lemma without the seat-wide namespace. -/
def sized_ints := @Go.Proofs.YtkcodmdfjpndiaaW.PrintWords.sized_ints
end Go.Proofs.Ytkcodmdfjpndiaa.PrintWords
namespace Go.Proofs.Ytkcodmdfjpndiaa.Pure
open Go.RowKit Go.Proofs.Ytkcodmdfjpndiaa.PCostNames Go.Proofs.YtkcodmdfjpndiaaW.PrintWords Go.Proofs.YtkcodmdfjpndiaaW.PrintLast Go.Proofs.YtkcodmdfjpndiaaW.PrintMore
set_option linter.unusedVariables false
set_option linter.unusedSimpArgs false

theorem wrap_id {i : Int} (h0 : -9223372036854775808 ≤ i) (h1 : i < 9223372036854775808) : wrap64 i = i := by unfold wrap64; omega
theorem wrap_succ {n : Nat} (h : n < 9223372036854775807) : wrap64 ((n : Int) + 1) = ((n + 1 : Nat) : Int) := by unfold wrap64; omega

theorem rd_at (l : List Int) {n : Nat} (h : n < l.length) : rd l (n : Int) = l[n] := by
  unfold rd; rw [Int.toNat_natCast, List.getD_eq_getElem?_getD, List.getElem?_eq_getElem h]; rfl
theorem rd_d (l : List Int) (n : Nat) : rd l (n : Int) = l.getD n 0 := rfl
theorem rd_out (l : List Int) {n : Nat} (h : l.length ≤ n) : rd l (n : Int) = 0 := by
  rw [rd_d, List.getD_eq_getElem?_getD, List.getElem?_eq_none h]; rfl
theorem drop_rd (l : List Int) {n : Nat} (h : n < l.length) : l.drop n = rd l (n : Int) :: l.drop (n + 1) := by
  rw [rd_at l h]; exact List.drop_eq_getElem_cons h
theorem take_rd (l : List Int) {n : Nat} (h : n < l.length) : l.take (n + 1) = l.take n ++ [rd l (n : Int)] := by
  rw [rd_at l h, List.take_succ_eq_append_getElem h]
theorem rd_mem (l : List Int) {n : Nat} (h : n < l.length) : rd l (n : Int) ∈ l := by rw [rd_at l h]; exact List.getElem_mem h
theorem rd_app_lt (l : List Int) (x : Int) {n : Nat} (h : n < l.length) : rd (l ++ [x]) (n : Int) = rd l (n : Int) := by
  rw [rd_at _ (by rw [List.length_append]; omega), rd_at _ h, List.getElem_append_left h]
theorem rd_app_eq (l : List Int) (x : Int) : rd (l ++ [x]) (l.length : Int) = x := by
  rw [rd_at _ (by rw [List.length_append, List.length_singleton]; omega)]; simp
theorem rd_app (l : List Int) (x : Int) (n : Nat) (h : n ≤ l.length) : rd (l ++ [x]) (n : Int) = if n = l.length then x else rd l (n : Int) := by
  by_cases e : n = l.length
  · rw [if_pos e, e, rd_app_eq]
  · rw [if_neg e, rd_app_lt _ _ (by omega)]
theorem rd_set (l : List Int) (i n : Nat) (x : Int) (h : n < l.length) : rd (l.set i x) (n : Int) = if n = i then x else rd l (n : Int) := by
  rw [rd_at _ (by rw [List.length_set]; exact h), rd_at _ h, List.getElem_set]
  by_cases e : n = i
  · rw [if_pos e, if_pos e.symm]
  · rw [if_neg e, if_neg (fun q => e q.symm)]
theorem rd_replicate (m n : Nat) (x : Int) (h : n < m) : rd (List.replicate m x) (n : Int) = x := by
  rw [rd_at _ (by rw [List.length_replicate]; exact h), List.getElem_replicate]
theorem rd_take (l : List Int) {m n : Nat} (h : n < m) (hm : m ≤ l.length) : rd (l.take m) (n : Int) = rd l (n : Int) := by
  rw [rd_at _ (by rw [List.length_take]; omega), rd_at _ (by omega), List.getElem_take]
theorem rd_drop (l : List Int) (m n : Nat) : rd (l.drop m) (n : Int) = rd l ((m + n : Nat) : Int) := by
  rw [rd_d, rd_d, List.getD_eq_getElem?_getD, List.getD_eq_getElem?_getD, List.getElem?_drop]
theorem list_ext {l m : List Int} (h : l.length = m.length) (k : ∀ n : Nat, n < l.length → rd l (n : Int) = rd m (n : Int)) : l = m := by
  apply List.ext_getElem h
  intro i h1 h2
  have := k i h1
  rwa [rd_at _ h1, rd_at _ h2] at this
theorem wf64 {a : Int} (h : (Lit.int .i64 a).wf = true) : -9223372036854775808 ≤ a ∧ a ≤ 9223372036854775807 := by
  simp only [Lit.wf, IntKind.min, IntKind.max, IntKind.signed, IntKind.bits, Bool.and_eq_true, decide_eq_true_eq, if_true] at h
  omega
/-- At least one round. -/
theorem round {k d : Nat} (h : d < k) : ∃ m, k = m + 1 := ⟨k - 1, by omega⟩

theorem awake : tattinglaw27_awake.f 60 = some true := by decide +kernel
theorem name_same (e : Int) (h0 : -9223372036854775808 ≤ e) (h1 : e ≤ 9223372036854775807) : cost_Name.f e = tattingref27_Name.f e := by
  by_cases c : 1 ≤ e ∧ e ≤ 8
  · have : ∀ n : Fin 8, cost_Name.f ((n.val : Int) + 1) = tattingref27_Name.f ((n.val : Int) + 1) := by decide +kernel
    have q := this ⟨(e - 1).toNat, by omega⟩
    dsimp only at q
    rwa [show (((e - 1).toNat : Nat) : Int) + 1 = e by omega] at q
  · unfold cost_Name.f tattingref27_Name.f
    rw [Option.bind_some, if_neg (by omega), if_neg (by omega), if_neg (by omega), if_neg (by omega), if_neg (by omega), if_neg (by omega), if_neg (by omega), if_neg (by omega)]
    by_cases d : e < 1
    · rw [if_pos d]
    · rw [if_neg d, if_pos (by simp; omega)]
theorem name_some (e : Int) : ∃ s, cost_Name.f e = some s := by
  unfold cost_Name.f
  repeat' split
  all_goals exact ⟨_, rfl⟩
theorem tag_l0 (s : ByteArray) (d : Nat) : ∀ (k : Nat) (e : Int), 1 ≤ e → e + d = 9 → d < k → ∃ r, cost_Tag.l0 k s e = some r ∧ tattingref27_Tag.l0 k s e = some r := by
  induction d with
  | zero =>
    intro k e h1 h2 hk
    obtain ⟨k, rfl⟩ := round hk
    refine ⟨(0, false), ?_, ?_⟩
    · simp only [cost_Tag.l0]; rw [if_neg (by omega)]
    · simp only [tattingref27_Tag.l0]; rw [if_neg (by omega)]
  | succ d ih =>
    intro k e h1 h2 hk
    obtain ⟨k, rfl⟩ := round hk
    obtain ⟨n, hn⟩ := name_some e
    have hn' := hn
    rw [name_same e (by omega) (by omega)] at hn'
    have hw : wrap64 (e + 1) = e + 1 := wrap_id (by omega) (by omega)
    obtain ⟨r, r1, r2⟩ := ih k (e + 1) (by omega) (by omega) (by omega)
    by_cases c : n.toList = s.toList
    · refine ⟨(e, true), ?_, ?_⟩
      · simp only [cost_Tag.l0]; rw [if_pos (by omega), hn, Option.bind_some, if_pos c]
      · simp only [tattingref27_Tag.l0]; rw [if_pos (by omega), hn', Option.bind_some, if_pos c]
    · refine ⟨r, ?_, ?_⟩
      · simp only [cost_Tag.l0]; rw [if_pos (by omega), hn, Option.bind_some, if_neg c, hw]; exact r1
      · simp only [tattingref27_Tag.l0]; rw [if_pos (by omega), hn', Option.bind_some, if_neg c, hw]; exact r2
theorem back (e : Int) (k : Nat) (hk : 60 ≤ k) : ∃ n, cost_Name.f e = some n ∧ cost_Tag.f k n = some (if 1 ≤ e ∧ e ≤ 8 then (e, true) else (0, false)) := by
  by_cases c : 1 ≤ e ∧ e ≤ 8
  · have : ∀ n : Fin 8, ((cost_Name.f ((n.val : Int) + 1)).bind fun s => cost_Tag.f 60 s) = some ((n.val : Int) + 1, true) := by decide +kernel
    have q := this ⟨(e - 1).toNat, by omega⟩
    dsimp only at q
    rw [show (((e - 1).toNat : Nat) : Int) + 1 = e by omega] at q
    obtain ⟨n, hn⟩ := name_some e
    rw [hn, Option.bind_some] at q
    exact ⟨n, hn, by rw [if_pos c]; exact at_rounds (cost_Tag.mono n) hk q⟩
  · refine ⟨⟨#[]⟩, ?_, ?_⟩
    · unfold cost_Name.f
      rw [if_neg (by omega), if_neg (by omega), if_neg (by omega), if_neg (by omega), if_neg (by omega), if_neg (by omega), if_neg (by omega), if_neg (by omega)]
    · rw [if_neg c]
      exact at_rounds (cost_Tag.mono _) hk (by decide +kernel)
theorem CostNames : tattinglaw27_CostNames.Pure := by
  intro e s he _
  have hw := wf64 he
  refine ⟨60, ?_⟩
  unfold tattinglaw27_CostNames.f
  rw [awake, Option.bind_some, if_pos rfl]
  by_cases h1 : (s.size : Int) > 60
  · rw [if_pos h1]
  rw [if_neg h1]
  obtain ⟨r, r1, r2⟩ := tag_l0 s 8 60 1 (by omega) (by omega) (by omega)
  obtain ⟨n, n1, n2⟩ := back e 60 (by omega)
  have t1 : cost_Tag.f 60 s = some r := r1
  have t2 : tattingref27_Tag.f 60 s = some r := r2
  rw [t1, Option.bind_some, t2, Option.bind_some, n1, Option.bind_some, n2, Option.bind_some, if_pos rfl, if_pos (by simp), Option.bind_some, ← name_same e hw.1 hw.2, n1, Option.bind_some, if_pos rfl]
  by_cases c : 1 ≤ e ∧ e ≤ 8
  · rw [if_pos c]
    rw [if_pos (by omega), if_pos (by simp; omega), if_pos rfl]; simp
  · rw [if_neg c]
    by_cases d : e ≥ 1
    · rw [if_pos d, if_pos (by simp; omega), if_neg (by simp)]
    · rw [if_neg d, if_pos (by simp), if_neg (by simp)]

end Go.Proofs.Ytkcodmdfjpndiaa.Pure
