/- The path back, turned round, is good, and as long as the table says. -/
import Derived.Test.YtpdjdffimighkaaZHRw
namespace Go.Proofs.Ytpdjdffimighkaa.Tile
open Go.RowKit Go.Proofs.Ytpdjdffimighkaa.PRussRuns Go.Proofs.YtpdjdffimighkaaW.PrintWords Go.Proofs.YtpdjdffimighkaaW.PrintLast Go.Proofs.YtpdjdffimighkaaW.PrintMore
set_option linter.unusedVariables false
set_option linter.unusedSimpArgs false
/-- Pairs that rise from two places on, and are alike. -/
def GoodFrom (a b : List Int) : Int → Int → List S49 → Prop
  | _, _, [] => True
  | i, j, p :: l => i ≤ p.f0 ∧ p.f0 < (a.length : Int) ∧ j ≤ p.f1 ∧ p.f1 < (b.length : Int) ∧ rd a p.f0 = rd b p.f1 ∧ GoodFrom a b (p.f0 + 1) (p.f1 + 1) l
/-- The places behind the last pair. -/
def endI : Int → List S49 → Int
  | i, [] => i
  | _, p :: l => endI (p.f0 + 1) l
def endJ : Int → List S49 → Int
  | j, [] => j
  | _, p :: l => endJ (p.f1 + 1) l
theorem goodFrom_append (a b : List Int) (l m : List S49) : ∀ i j, GoodFrom a b i j l → GoodFrom a b (endI i l) (endJ j l) m → GoodFrom a b i j (l ++ m) := by
  induction l with
  | nil => intro i j _ h; exact h
  | cons p l ih => intro i j h k; exact ⟨h.1, h.2.1, h.2.2.1, h.2.2.2.1, h.2.2.2.2.1, ih _ _ h.2.2.2.2.2 k⟩
theorem endI_append (l m : List S49) : ∀ i, endI i (l ++ m) = endI (endI i l) m := by
  induction l with
  | nil => intro i; rfl
  | cons p l ih => intro i; exact ih _
theorem endJ_append (l m : List S49) : ∀ i, endJ i (l ++ m) = endJ (endJ i l) m := by
  induction l with
  | nil => intro i; rfl
  | cons p l ih => intro i; exact ih _
theorem rdP_at (l : List S49) {n : Nat} (h : n < l.length) : rd_T49 l (n : Int) = l[n] := by
  show l.getD n _ = _
  rw [List.getD_eq_getElem?_getD, List.getElem?_eq_getElem h]; rfl
theorem drop_rdP (l : List S49) {n : Nat} (h : n < l.length) : l.drop n = rd_T49 l (n : Int) :: l.drop (n + 1) := by
  rw [rdP_at l h]; exact List.drop_eq_getElem_cons h
theorem etaP (p : S49) : (⟨p.f0, p.f1⟩ : S49) = p := rfl
theorem rdP_set (l : List S49) (i n : Nat) (x : S49) (h : n < l.length) : rd_T49 (l.set i x) (n : Int) = if n = i then x else rd_T49 l (n : Int) := by
  rw [rdP_at _ (by rw [List.length_set]; exact h), rdP_at _ h, List.getElem_set]
  by_cases e : n = i
  · rw [if_pos e, if_pos e.symm]
  · rw [if_neg e, if_neg (fun q => e q.symm)]
theorem list_extP {l m : List S49} (h : l.length = m.length) (k : ∀ n : Nat, n < l.length → rd_T49 l (n : Int) = rd_T49 m (n : Int)) : l = m := by
  refine List.ext_getElem h fun n h1 h2 => ?_
  have := k n h1
  rwa [rdP_at l h1, rdP_at m h2] at this
theorem reverseP_l0 (l : List S49) (hl : l.length ≤ 1000000) (d : Nat) : ∀ (k i : Nat) (y : List S49), l.length ≤ 2 * i + d → d < k → i ≤ l.length → y.length = l.length → (∀ t, t < l.length → rd_T49 y (t : Int) = if t < i ∨ l.length ≤ t + i then rd_T49 l ((l.length - 1 - t : Nat) : Int) else rd_T49 l (t : Int)) →
    api_Pair.l0 k y (i : Int) ((l.length : Int) - 1 - i) = some l.reverse := by
  have fin : ∀ (y : List S49) (i : Nat), y.length = l.length → l.length ≤ 2 * i + 1 → i ≤ l.length → (∀ t, t < l.length → rd_T49 y (t : Int) = if t < i ∨ l.length ≤ t + i then rd_T49 l ((l.length - 1 - t : Nat) : Int) else rd_T49 l (t : Int)) → y = l.reverse := by
    intro y i hy hi hi' h
    apply list_extP (by rw [hy, List.length_reverse])
    intro t ht
    have hr : rd_T49 l.reverse (t : Int) = rd_T49 l ((l.length - 1 - t : Nat) : Int) := by
      rw [rdP_at _ (by rw [List.length_reverse]; omega), rdP_at _ (by omega), List.getElem_reverse]
    rw [hr, h t (by omega)]
    by_cases c : t < i ∨ l.length ≤ t + i
    · rw [if_pos c]
    · rw [if_neg c, show l.length - 1 - t = t by omega]
  induction d with
  | zero =>
    intro k i y hi hk hi' hy h
    obtain ⟨k, rfl⟩ := round hk
    simp only [api_Pair.l0, etaP]
    rw [if_neg (by omega), fin y i hy (by omega) hi' h]
  | succ d ih =>
    intro k i y hi hk hi' hy h
    obtain ⟨k, rfl⟩ := round hk
    simp only [api_Pair.l0, etaP]
    by_cases c : 2 * i + 1 < l.length
    · have ej : (l.length : Int) - 1 - i = ((l.length - 1 - i : Nat) : Int) := by omega
      have E1 := Aside0.mk (show wrap64 ((i : Int) + 1) = ((i + 1 : Nat) : Int) from wrap_succ (by omega))
      have E2 := Aside0.mk (show wrap64 (((l.length - 1 - i : Nat) : Int) - 1) = (l.length : Int) - 1 - ((i + 1 : Nat) : Int) from by rw [wrap_id (by omega) (by omega)]; omega)
      rw [ej, if_pos (by omega), if_pos (by omega), if_pos (by omega), if_pos (by omega), if_pos (by omega), E1.out, E2.out]
      simp only [Int.toNat_natCast]
      refine ih k (i + 1) _ (by omega) (by omega) (by omega) (by rw [List.length_set, List.length_set]; exact hy) ?_
      intro t ht
      rw [rdP_set _ _ _ _ (by rw [List.length_set]; omega), rdP_set _ _ _ _ (by omega), h (l.length - 1 - i) (by omega), h i (by omega), h t ht]
      by_cases c1 : t = l.length - 1 - i
      · rw [if_pos c1, if_neg (by omega), if_pos (by omega), c1, show l.length - 1 - (l.length - 1 - i) = i by omega]
      · rw [if_neg c1]
        by_cases c2 : t = i
        · rw [if_pos c2, if_neg (by omega), if_pos (by omega), c2]
        · rw [if_neg c2]
          by_cases c3 : t < i ∨ l.length ≤ t + i
          · rw [if_pos c3, if_pos (by omega)]
          · rw [if_neg c3, if_neg (by omega)]
    · rw [if_neg (by omega), fin y i hy (by omega) hi' h]
theorem reverseP (l : List S49) (hl : l.length ≤ 1000000) {k : Nat} (hk : l.length < k) : api_Pair.f k l = some l.reverse := by
  unfold api_Pair.f
  rw [wrap_id (by omega) (by omega)]
  have h := reverseP_l0 l hl l.length k 0 l (by omega) hk (by omega) rfl (fun t ht => by rw [if_neg (by omega)])
  rw [show (l.length : Int) - 1 - ((0 : Nat) : Int) = (l.length : Int) - 1 by omega] at h
  exact h
theorem R_C {α : Type} {d : Kd α} {e base n c : Nat} {ok : Nat → Prop} {W : World} {A : Option Addr} {xs : List α} (h : d.R e W base ok (.slice A n c) xs) : d.C W A n xs := Kd.C_kept_own (S := fun _ => False) h (fun _ _ h => h) W (Kept.refl W _)
/-- The path back, turned round, is good. -/
theorem path_good {a b : List Int} : ∀ (F i j : Nat), i ≤ a.length → j ≤ b.length → GoodFrom a b 0 0 (pairsP (pathF a b F i j)).reverse ∧ endI 0 (pairsP (pathF a b F i j)).reverse ≤ (i : Int) ∧ endJ 0 (pairsP (pathF a b F i j)).reverse ≤ (j : Int)
  | 0, i, j, _, _ => ⟨trivial, by show (0 : Int) ≤ _; omega, by show (0 : Int) ≤ _; omega⟩
  | F + 1, i, j, hi, hj => by
    rw [pathF]
    by_cases c : 0 < i ∧ 0 < j
    · rw [if_pos c]
      by_cases g : a.getD (i - 1) 0 = b.getD (j - 1) 0
      · rw [if_pos g]
        obtain ⟨h1, h2, h3⟩ := path_good (a := a) (b := b) F (i - 1) (j - 1) (by omega) (by omega)
        have e : pairsP ((i - 1, j - 1) :: pathF a b F (i - 1) (j - 1)) = (⟨((i - 1 : Nat) : Int), ((j - 1 : Nat) : Int)⟩ : S49) :: pairsP (pathF a b F (i - 1) (j - 1)) := rfl
        rw [e, List.reverse_cons]
        refine ⟨goodFrom_append _ _ _ _ _ _ h1 ⟨h2, by show ((i - 1 : Nat) : Int) < _; omega, h3, by show ((j - 1 : Nat) : Int) < _; omega, g, trivial⟩, ?_, ?_⟩
        · rw [endI_append]; show ((i - 1 : Nat) : Int) + 1 ≤ _; omega
        · rw [endJ_append]; show ((j - 1 : Nat) : Int) + 1 ≤ _; omega
      · rw [if_neg g]
        split
        · obtain ⟨h1, h2, h3⟩ := path_good (a := a) (b := b) F (i - 1) j (by omega) hj
          exact ⟨h1, by omega, h3⟩
        · obtain ⟨h1, h2, h3⟩ := path_good (a := a) (b := b) F i (j - 1) hi (by omega)
          exact ⟨h1, h2, by omega⟩
    · rw [if_neg c]
      exact ⟨trivial, by show (0 : Int) ≤ _; omega, by show (0 : Int) ≤ _; omega⟩
/-- It is as long as the table's number there. -/
theorem path_length {a b : List Int} : ∀ (F i j : Nat), i ≤ a.length → j ≤ b.length → i + j ≤ F → ((pathF a b F i j).length : Int) = Tb a b i j
  | 0, i, j, _, _, hF => by
    have e : i = 0 := by omega
    subst e; rfl
  | F + 1, i, j, hi, hj, hF => by
    rw [pathF]
    by_cases c : 0 < i ∧ 0 < j
    · rw [if_pos c]
      obtain ⟨i, rfl⟩ : ∃ q, i = q + 1 := ⟨i - 1, by omega⟩
      obtain ⟨j, rfl⟩ : ∃ q, j = q + 1 := ⟨j - 1, by omega⟩
      simp only [Nat.add_sub_cancel]
      rw [Tb_ss]
      by_cases g : a.getD i 0 = b.getD j 0
      · rw [if_pos g, if_pos (show Mt a b i j from ⟨by omega, by omega, g⟩), List.length_cons]
        have := path_length (a := a) (b := b) F i j (by omega) (by omega) (by omega)
        omega
      · rw [if_neg g, if_neg (show ¬ Mt a b i j from fun h => g h.2.2)]
        by_cases d : Tb a b (i + 1) j ≤ Tb a b i (j + 1)
        · rw [if_pos d, if_neg (by omega)]
          exact path_length F i (j + 1) (by omega) hj (by omega)
        · rw [if_neg d, if_pos (by omega)]
          exact path_length F (i + 1) j hi (by omega) (by omega)
    · rw [if_neg c]
      have e : i = 0 ∨ j = 0 := by omega
      rcases e with e | e
      · subst e; rfl
      · subst e; rw [Tb_i0]; rfl
theorem pairsP_length (l : List (Nat × Nat)) : (pairsP l).length = l.length := by simp [pairsP]
end Go.Proofs.Ytpdjdffimighkaa.Tile
