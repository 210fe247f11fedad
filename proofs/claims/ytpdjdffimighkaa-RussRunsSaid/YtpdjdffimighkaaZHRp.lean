/- The table of two lists, its squares; what russ.up, eq, delta.Key answer. -/
import Derived.Test.YtpdjdffimighkaaZHTb
import Derived.Test.YtpdjdffimighkaaZPRussRunsx1
import Derived.Test.YtpdjdffimighkaaZPRussRunsx2
namespace Go.Proofs.Ytpdjdffimighkaa.Tile
open Go.RowKit Go.Proofs.Ytpdjdffimighkaa.PRussRuns Go.Proofs.YtpdjdffimighkaaW.PrintWords Go.Proofs.YtpdjdffimighkaaW.PrintLast Go.Proofs.YtpdjdffimighkaaW.PrintMore
set_option linter.unusedVariables false
set_option linter.unusedSimpArgs false
/-! ### the table of two lists, its squares -/
def Mt (a b : List Int) (i j : Nat) : Prop := i < a.length ∧ j < b.length ∧ a.getD i 0 = b.getD j 0
instance (a b : List Int) (i j : Nat) : Decidable (Mt a b i j) := by unfold Mt; infer_instance
def TbN (a b : List Int) (i : Nat) (prev : Nat → Int) : Nat → Int
  | 0 => 0
  | j + 1 => if Mt a b i j then prev j + 1 else if prev (j + 1) < TbN a b i prev j then TbN a b i prev j else prev (j + 1)
def Tb (a b : List Int) : Nat → Nat → Int
  | 0 => fun _ => 0
  | i + 1 => TbN a b i (Tb a b i)
section
variable {a b : List Int}
theorem Tb_0 (j : Nat) : Tb a b 0 j = 0 := rfl
theorem Tb_i0 (i : Nat) : Tb a b i 0 = 0 := by cases i <;> rfl
theorem Tb_ss (i j : Nat) : Tb a b (i + 1) (j + 1) = if Mt a b i j then Tb a b i j + 1 else if Tb a b i (j + 1) < Tb a b (i + 1) j then Tb a b (i + 1) j else Tb a b i (j + 1) := rfl
theorem Tb_steps : ∀ r, (∀ c, 0 ≤ Tb a b r (c + 1) - Tb a b r c ∧ Tb a b r (c + 1) - Tb a b r c ≤ 1) ∧ ∀ c, 0 ≤ Tb a b (r + 1) c - Tb a b r c ∧ Tb a b (r + 1) c - Tb a b r c ≤ 1 := by
  have up : ∀ r, (∀ c, 0 ≤ Tb a b r (c + 1) - Tb a b r c ∧ Tb a b r (c + 1) - Tb a b r c ≤ 1) → ∀ c, (0 ≤ Tb a b (r + 1) c - Tb a b r c ∧ Tb a b (r + 1) c - Tb a b r c ≤ 1) ∧ (0 ≤ Tb a b (r + 1) (c + 1) - Tb a b (r + 1) c ∧ Tb a b (r + 1) (c + 1) - Tb a b (r + 1) c ≤ 1) := by
    intro r hr c
    have next : ∀ c, (0 ≤ Tb a b (r + 1) c - Tb a b r c ∧ Tb a b (r + 1) c - Tb a b r c ≤ 1) → (0 ≤ Tb a b (r + 1) (c + 1) - Tb a b r (c + 1) ∧ Tb a b (r + 1) (c + 1) - Tb a b r (c + 1) ≤ 1) ∧ (0 ≤ Tb a b (r + 1) (c + 1) - Tb a b (r + 1) c ∧ Tb a b (r + 1) (c + 1) - Tb a b (r + 1) c ≤ 1) := by
      intro c hc
      have h1 := hr c
      rw [Tb_ss]
      generalize Tb a b r c = x at *
      generalize Tb a b r (c + 1) = y at *
      generalize Tb a b (r + 1) c = z at *
      split
      · omega
      · split <;> omega
    induction c with
    | zero =>
      have h0 : 0 ≤ Tb a b (r + 1) 0 - Tb a b r 0 ∧ Tb a b (r + 1) 0 - Tb a b r 0 ≤ 1 := by
        rw [Tb_i0, Tb_i0]; omega
      exact ⟨h0, (next 0 h0).2⟩
    | succ c ih => exact ⟨(next c ih.1).1, (next (c + 1) (next c ih.1).1).2⟩
  intro r
  have H : ∀ r, ∀ c, 0 ≤ Tb a b r (c + 1) - Tb a b r c ∧ Tb a b r (c + 1) - Tb a b r c ≤ 1 := by
    intro r
    induction r with
    | zero => intro c; rw [Tb_0, Tb_0]; omega
    | succ r ih => exact fun c => (up r ih c).2
  exact ⟨H r, fun c => (up r (H r) c).1⟩
theorem Tb_bd (i j : Nat) : 0 ≤ Tb a b i j ∧ Tb a b i j ≤ (j : Int) := by
  induction j with
  | zero => rw [Tb_i0]; omega
  | succ j ih => have := (Tb_steps (a := a) (b := b) i).1 j; omega
/-- The steps of a row, of a column of the table. -/
def Dr (a b : List Int) (i c : Nat) : Int := Tb a b i (c + 1) - Tb a b i c
def Dc (a b : List Int) (j r : Nat) : Int := Tb a b (r + 1) j - Tb a b r j
theorem Dr_bd (i c : Nat) : 0 ≤ Dr a b i c ∧ Dr a b i c ≤ 1 := (Tb_steps i).1 c
theorem Dc_bd (j r : Nat) : 0 ≤ Dc a b j r ∧ Dc a b j r ≤ 1 := (Tb_steps r).2 j
/-- A square of the table, less its corner, is that of its two sides and of what is alike in it. -/
theorem F_block {t i j : Nat} {q p l : Int} (hp : ∀ c, c < t → bitOf p c = Dr a b i (j + c)) (hl : ∀ r, r < t → bitOf l r = Dc a b j (i + r)) (hq : ∀ r, r < t → ∀ c, c < t → (bitOf q (r * t + c) = 1 ↔ Mt a b (i + r) (j + c))) :
    ∀ r, r ≤ t → ∀ c, c ≤ t → F t q p l r c = Tb a b (i + r) (j + c) - Tb a b i j := by
  intro r
  induction r with
  | zero =>
    intro _ c
    induction c with
    | zero => intro _; rw [F_00]; show (0 : Int) = Tb a b i j - Tb a b i j; omega
    | succ c ih =>
      intro hc
      rw [F_0s, ih (by omega), hp c (by omega)]
      show _ + (Tb a b i (j + c + 1) - Tb a b i (j + c)) = Tb a b i (j + c + 1) - Tb a b i j
      show Tb a b i (j + c) - Tb a b i j + (Tb a b i (j + c + 1) - Tb a b i (j + c)) = _
      omega
  | succ r ihr =>
    intro hr c
    induction c with
    | zero =>
      intro _
      rw [F_s0, ihr (by omega) 0 (by omega), hl r (by omega)]
      show Tb a b (i + r) j - Tb a b i j + (Tb a b (i + r + 1) j - Tb a b (i + r) j) = Tb a b (i + r + 1) j - Tb a b i j
      omega
    | succ c ih =>
      intro hc
      have e1 := ih (by omega)
      have e2 := ihr (by omega) c (by omega)
      have e3 := ihr (by omega) (c + 1) (by omega)
      rw [F_ss, e1, e2, e3]
      show _ = Tb a b (i + r + 1) (j + c + 1) - Tb a b i j
      rw [Tb_ss]
      have hm := hq r (by omega) c (by omega)
      show (if _ then Tb a b (i + r) (j + c) - Tb a b i j + 1 else if Tb a b (i + r) (j + c + 1) - Tb a b i j < Tb a b (i + r + 1) (j + c) - Tb a b i j then Tb a b (i + r + 1) (j + c) - Tb a b i j else Tb a b (i + r) (j + c + 1) - Tb a b i j) = _
      by_cases g : Mt a b (i + r) (j + c)
      · rw [if_pos (hm.mpr g), if_pos g]; omega
      · rw [if_neg (fun x => g (hm.mp x)), if_neg g]
        by_cases g2 : Tb a b (i + r) (j + c + 1) < Tb a b (i + r + 1) (j + c)
        · rw [if_pos (by omega), if_pos g2]
        · rw [if_neg (by omega), if_neg g2]
theorem side_eq {d e : Nat → Int} : ∀ {k : Nat}, (∀ i, i < k → d i = e i) → side d k = side e k
  | 0, _ => rfl
  | k + 1, h => by
    show side d k + d k * 2 ^ k = side e k + e k * 2 ^ k
    rw [side_eq (fun i hi => h i (by omega)), h k (by omega)]
/-- What a look tells of a square of the table. -/
theorem look_block {t i j : Nat} {q p l : Int} (hp : ∀ c, c < t → bitOf p c = Dr a b i (j + c)) (hl : ∀ r, r < t → bitOf l r = Dc a b j (i + r)) (hq : ∀ r, r < t → ∀ c, c < t → (bitOf q (r * t + c) = 1 ↔ Mt a b (i + r) (j + c))) :
    bot t q p l t = side (fun c => Dr a b (i + t) (j + c)) t ∧ rig t q p l t = side (fun r => Dc a b (j + t) (i + r)) t := by
  have h := F_block hp hl hq
  refine ⟨side_eq fun c hc => ?_, side_eq fun r hr => ?_⟩
  · rw [h t (Nat.le_refl _) (c + 1) (by omega), h t (Nat.le_refl _) c (by omega)]
    show _ = Tb a b (i + t) (j + c + 1) - Tb a b (i + t) (j + c)
    show Tb a b (i + t) (j + c + 1) - Tb a b i j - (Tb a b (i + t) (j + c) - Tb a b i j) = _
    omega
  · rw [h (r + 1) (by omega) t (Nat.le_refl _), h r (by omega) t (Nat.le_refl _)]
    show _ = Tb a b (i + r + 1) (j + t) - Tb a b (i + r) (j + t)
    show Tb a b (i + r + 1) (j + t) - Tb a b i j - (Tb a b (i + r) (j + t) - Tb a b i j) = _
    omega
end
theorem bitOf_side {d : Nat → Int} (hd : ∀ i, 0 ≤ d i ∧ d i ≤ 1) {t k : Nat} (ht : t ≤ 3) (hk : k < t) : bitOf (side d t) k = d k := by
  have b0 : d 0 = 0 ∨ d 0 = 1 := by have := hd 0; omega
  have b1 : d 1 = 0 ∨ d 1 = 1 := by have := hd 1; omega
  have b2 : d 2 = 0 ∨ d 2 = 1 := by have := hd 2; omega
  have et : t = 1 ∨ t = 2 ∨ t = 3 := by omega
  have ek : k = 0 ∨ k = 1 ∨ k = 2 := by omega
  have s1 : side d 1 = 0 + d 0 * 2 ^ 0 := rfl
  have s2 : side d 2 = 0 + d 0 * 2 ^ 0 + d 1 * 2 ^ 1 := rfl
  have s3 : side d 3 = 0 + d 0 * 2 ^ 0 + d 1 * 2 ^ 1 + d 2 * 2 ^ 2 := rfl
  rcases et with rfl | rfl | rfl
  · rcases ek with rfl | rfl | rfl
    · rw [s1]; rcases b0 with e | e <;> rw [e] <;> decide
    · omega
    · omega
  · rw [s2]
    rcases ek with rfl | rfl | rfl
    · rcases b0 with e | e <;> rcases b1 with f | f <;> rw [e, f] <;> decide
    · rcases b0 with e | e <;> rcases b1 with f | f <;> rw [e, f] <;> decide
    · omega
  · rw [s3]
    rcases ek with rfl | rfl | rfl <;> rcases b0 with e | e <;> rcases b1 with f | f <;> rcases b2 with g | g <;> rw [e, f, g] <;> decide
/-- What is alike in a square, as a number. -/
def Eb (a b : List Int) (i j t : Nat) : Nat → Nat
  | 0 => 0
  | n + 1 => Eb a b i j t n + if Mt a b (i + n / t) (j + n % t) then 2 ^ n else 0
theorem Eb_lt {a b : List Int} {i j t : Nat} : ∀ n, Eb a b i j t n < 2 ^ n
  | 0 => by show 0 < 1; decide
  | n + 1 => by
    have h := Eb_lt (a := a) (b := b) (i := i) (j := j) (t := t) n
    rw [Eb, Nat.pow_succ]
    split <;> omega
theorem Eb_bit {a b : List Int} {i j t : Nat} : ∀ n k, k < n → ((Eb a b i j t n).testBit k = true ↔ Mt a b (i + k / t) (j + k % t))
  | 0, k, hk => absurd hk (Nat.not_lt_zero _)
  | n + 1, k, hk => by
    have h := Eb_lt (a := a) (b := b) (i := i) (j := j) (t := t) n
    rw [Eb]
    by_cases c : Mt a b (i + n / t) (j + n % t)
    · rw [if_pos c, Nat.add_comm]
      by_cases e : k = n
      · subst e
        rw [Nat.testBit_two_pow_add_eq, Nat.testBit_lt_two_pow h]
        exact ⟨fun _ => c, fun _ => rfl⟩
      · rw [Nat.testBit_two_pow_add_gt (by omega)]
        exact Eb_bit n k (by omega)
    · rw [if_neg c, Nat.add_zero]
      by_cases e : k = n
      · subst e
        rw [Nat.testBit_lt_two_pow h]
        exact ⟨fun x => absurd x (by decide), fun x => absurd x c⟩
      · exact Eb_bit n k (by omega)
theorem Eb_bitOf {a b : List Int} {i j t n k : Nat} (hn : n ≤ 9) (hk : k < n) : bitOf ((Eb a b i j t n : Nat) : Int) k = 1 ↔ Mt a b (i + k / t) (j + k % t) := by
  have h := Eb_lt (a := a) (b := b) (i := i) (j := j) (t := t) n
  have h9 : 2 ^ n ≤ 2 ^ 9 := Nat.pow_le_pow_right (by decide) hn
  rw [bitOf_nat _ _ (by omega), ← Eb_bit (a := a) (b := b) (i := i) (j := j) (t := t) n k hk, Nat.testBit_eq_decide_div_mod_eq]
  simp only [decide_eq_true_eq]
  omega
theorem wrap_id {i : Int} (h0 : -9223372036854775808 ≤ i) (h1 : i < 9223372036854775808) : wrap64 i = i := by unfold wrap64; omega
theorem wrap_succ {n : Nat} (h : n < 9223372036854775807) : wrap64 ((n : Int) + 1) = ((n + 1 : Nat) : Int) := by unfold wrap64; omega
theorem rd_at (l : List Int) {n : Nat} (h : n < l.length) : rd l (n : Int) = l[n] := by
  unfold rd; rw [Int.toNat_natCast, List.getD_eq_getElem?_getD, List.getElem?_eq_getElem h]; rfl
theorem rd_d (l : List Int) (n : Nat) : rd l (n : Int) = l.getD n 0 := rfl
theorem drop_rd (l : List Int) {n : Nat} (h : n < l.length) : l.drop n = rd l (n : Int) :: l.drop (n + 1) := by
  rw [rd_at l h]; exact List.drop_eq_getElem_cons h
theorem rd_app_lt (l : List Int) (x : Int) {n : Nat} (h : n < l.length) : rd (l ++ [x]) (n : Int) = rd l (n : Int) := by
  rw [rd_at _ (by rw [List.length_append]; omega), rd_at _ h, List.getElem_append_left h]
theorem rd_app_eq (l : List Int) (x : Int) : rd (l ++ [x]) (l.length : Int) = x := by
  rw [rd_at _ (by rw [List.length_append, List.length_singleton]; omega)]; simp
theorem rd_app (l : List Int) (x : Int) (n : Nat) (h : n ≤ l.length) : rd (l ++ [x]) (n : Int) = if n = l.length then x else rd l (n : Int) := by
  by_cases e : n = l.length
  · rw [if_pos e, e, rd_app_eq]
  · rw [if_neg e, rd_app_lt _ _ (by omega)]
theorem rd_set (l : List Int) (i n : Nat) (x : Int) (h : n < l.length) : rd (l.set i x) (n : Int) = if n = i then x else rd l (n : Int) := by
  rw [rd_at _ (by rw [List.length_set]; exact h), rd_at _ h, List.getElem_set]
  by_cases e : n = i
  · rw [if_pos e, if_pos e.symm]
  · rw [if_neg e, if_neg (fun q => e q.symm)]
theorem rd_replicate (m n : Nat) (x : Int) (h : n < m) : rd (List.replicate m x) (n : Int) = x := by
  rw [rd_at _ (by rw [List.length_replicate]; exact h), List.getElem_replicate]
theorem list_ext {l m : List Int} (h : l.length = m.length) (k : ∀ n : Nat, n < l.length → rd l (n : Int) = rd m (n : Int)) : l = m := by
  apply List.ext_getElem h
  intro i h1 h2
  have := k i h1
  rwa [rd_at _ h1, rd_at _ h2] at this
/-- At least one round. -/
theorem round {k d : Nat} (h : d < k) : ∃ m, k = m + 1 := ⟨k - 1, by omega⟩
theorem or_bit (x : Int) (k : Nat) (hk : k < 3) (h0 : 0 ≤ x) (h1 : x < 2 ^ k) : Go.bits .or .i64 x (shl .i64 1 (k : Int)) = x + 2 ^ k ∧ wrap64 (x + shl .i64 1 (IntKind.u64.wrap (k : Int))) = x + 2 ^ k ∧ 0 ≤ IntKind.u64.wrap (k : Int) := by
  have all : ∀ k : Fin 3, ∀ x : Fin 4, (x.val < 2 ^ k.val) → (Go.bits .or .i64 (x.val : Int) (shl .i64 1 (k.val : Int)) = (x.val : Int) + 2 ^ k.val ∧ wrap64 ((x.val : Int) + shl .i64 1 (IntKind.u64.wrap (k.val : Int))) = (x.val : Int) + 2 ^ k.val ∧ 0 ≤ IntKind.u64.wrap (k.val : Int)) := by decide +kernel
  have e : x = ((x.toNat : Nat) : Int) := by omega
  have hx : x.toNat < 2 ^ k := by
    have : ((x.toNat : Nat) : Int) < ((2 ^ k : Nat) : Int) := by rw [← e]; simpa using h1
    omega
  have h4 : x.toNat < 4 := by
    have : 2 ^ k ≤ 2 ^ 2 := Nat.pow_le_pow_right (by decide) (by omega)
    omega
  have h := all ⟨k, hk⟩ ⟨x.toNat, h4⟩ hx
  simp only at h
  rw [← e] at h; exact h
/-- The key of some steps, from some place on. -/
def keyFrom (d : List Int) (at' : Nat) (t : Nat) : Nat → Nat → Int → Int
  | 0, _, acc => acc
  | m + 1, k, acc => if k < t ∧ at' + k < d.length then keyFrom d at' t m (k + 1) (if rd d ((at' + k : Nat) : Int) = 0 then acc else acc + 2 ^ k) else acc
theorem deltaKey_l0 (d : List Int) (at' t : Nat) (hd : d.length ≤ 1000000) (ha : at' ≤ d.length) (ht : t ≤ 3) (m : Nat) : ∀ (fu k : Nat) (acc : Int), k + m = 4 → 2 * m < fu → 0 ≤ acc → acc < 2 ^ k → k ≤ t →
    delta_Key.l0 fu d (at' : Int) (t : Int) acc (k : Int) = some (keyFrom d at' t m k acc) := by
  induction m with
  | zero => intro fu k acc hk hf h0 h1 h2; omega
  | succ m ih =>
    intro fu k acc hk hf h0 h1 h2
    obtain ⟨fu, rfl⟩ : ∃ q, fu = q + 2 := ⟨fu - 2, by omega⟩
    have hp : (2 : Int) ^ (k + 1) = 2 ^ k + 2 ^ k := by rw [Int.pow_succ]; omega
    have E1 := Aside0.mk (show wrap64 ((at' : Int) + (k : Int)) = ((at' + k : Nat) : Int) from by rw [wrap_id (by omega) (by omega)]; omega)
    have E2 := Aside0.mk (show wrap64 ((k : Int) + 1) = ((k + 1 : Nat) : Int) from wrap_succ (by omega))
    simp only [delta_Key.l0]
    rw [keyFrom]
    by_cases c : k < t
    · rw [if_pos (by omega), E1.out]
      simp only [delta_Key.j1]
      by_cases c2 : at' + k < d.length
      · rw [if_pos (by rw [decide_eq_true (by omega)]), E1.out, E2.out, if_pos (by omega), if_pos (by omega)]
        by_cases c3 : rd d ((at' + k : Nat) : Int) = 0
        · rw [if_pos c3, if_pos (⟨c, c2⟩ : k < t ∧ at' + k < d.length), if_pos c3]; exact ih fu (k + 1) acc (by omega) (by omega) h0 (by omega) (by omega)
        · rw [if_neg c3, if_pos (by omega), (or_bit acc k (by omega) h0 h1).1, if_pos (⟨c, c2⟩ : k < t ∧ at' + k < d.length), if_neg c3]; exact ih fu (k + 1) _ (by omega) (by omega) (by omega) (by omega) (by omega)
      · rw [if_neg (by rw [decide_eq_false (by omega)]; decide), if_neg (fun q => c2 q.2)]
    · rw [if_neg (by omega)]
      simp only [delta_Key.j1]
      rw [if_neg (by decide), if_neg (fun q => c q.1)]
/-- The key that is there. -/
def keySpec (d : List Int) (a t : Int) : Int := if a < 0 ∨ t < 1 ∨ t > 3 then 0 else keyFrom d a.toNat t.toNat 4 0 0
theorem looks_f (d : List Int) (a t : Int) : delta_looks.f d a t = some (decide (0 ≤ a ∧ a < (d.length : Int) ∧ 1 ≤ t ∧ t ≤ 3)) := by
  unfold delta_looks.f
  by_cases c0 : a ≥ 0
  · rw [if_pos c0]
    by_cases c1 : a < (d.length : Int)
    · rw [if_pos c1]
      by_cases c2 : t ≥ 1
      · rw [if_pos c2]; congr 1; rw [decide_eq_decide]; omega
      · rw [if_neg c2, decide_eq_false (by omega)]
    · rw [if_neg c1, decide_eq_false (by omega)]
  · rw [if_neg c0, decide_eq_false (by omega)]
theorem keyFrom_out (d : List Int) (a t m : Nat) (acc : Int) (h : d.length ≤ a) : keyFrom d a t m 0 acc = acc := by
  cases m with
  | zero => rfl
  | succ m => rw [keyFrom, if_neg (by omega)]
theorem deltaKey (d : List Int) (hd : d.length ≤ 1000000) (a t : Int) {k : Nat} (hk : 10 < k) : delta_Key.f k d a t = some (keySpec d a t) := by
  unfold delta_Key.f keySpec
  rw [looks_f, Option.bind_some]
  by_cases c : 0 ≤ a ∧ a < (d.length : Int) ∧ 1 ≤ t ∧ t ≤ 3
  · rw [decide_eq_true c, if_pos rfl, if_neg (by omega)]
    have h := deltaKey_l0 d a.toNat t.toNat hd (by omega) (by omega) 4 k 0 0 (by omega) (by omega) (by omega) (by decide) (by omega)
    rw [Int.toNat_of_nonneg (by omega), Int.toNat_of_nonneg (by omega)] at h; exact h
  · rw [decide_eq_false c, if_neg (by decide)]
    by_cases c2 : a < 0 ∨ t < 1 ∨ t > 3
    · rw [if_pos c2]
    · rw [if_neg c2, keyFrom_out _ _ _ _ _ (by omega)]
/-! ### what the printed functions answer -/
def upN (n t : Nat) : Nat := (n + t - 1) / t
theorem up_f {n t : Nat} (hn : n ≤ 1000) (ht : 1 ≤ t ∧ t ≤ 3) : russ_up.f (n : Int) (t : Int) = some ((upN n t : Nat) : Int) := by
  unfold russ_up.f upN
  rw [if_neg (by omega)]
  have e1 : wrap64 ((n : Int) + (t : Int)) = (n : Int) + (t : Int) := wrap_id (by omega) (by omega)
  have e2 : wrap64 ((n : Int) + (t : Int) - 1) = ((n + t - 1 : Nat) : Int) := by rw [wrap_id (by omega) (by omega)]; omega
  rw [e1, e2]
  have e3 : Int.tdiv ((n + t - 1 : Nat) : Int) (t : Int) = (((n + t - 1) / t : Nat) : Int) := by
    rw [Int.tdiv_eq_ediv_of_nonneg (by omega)]; exact (Int.natCast_ediv _ _).symm
  rw [e3]
  have h := Nat.div_le_self (n + t - 1) t
  generalize (n + t - 1) / t = x at h ⊢
  rw [wrap_id (by omega) (by omega)]
theorem upN_mul {n t : Nat} (ht : 1 ≤ t) : n ≤ upN n t * t ∧ upN n t * t < n + t := by
  unfold upN
  have h1 := Nat.div_add_mod (n + t - 1) t
  have h2 := Nat.mod_lt (n + t - 1) (show 0 < t by omega)
  rw [Nat.mul_comm] at h1
  omega
theorem shl_pow {n : Nat} (hn : n < 9) : shl .i64 1 (n : Int) = ((2 ^ n : Nat) : Int) := by
  have all : ∀ n : Fin 9, shl .i64 1 (n.val : Int) = ((2 ^ n.val : Nat) : Int) := by decide +kernel
  exact all ⟨n, hn⟩
theorem or_pow2 {x n : Nat} (hn : n < 9) (hx : x < 2 ^ n) : Go.bits .or .i64 (x : Int) (shl .i64 1 (n : Int)) = ((x + 2 ^ n : Nat) : Int) := by
  rw [shl_pow hn]
  have h9 : 2 ^ n ≤ 2 ^ 9 := Nat.pow_le_pow_right (by decide) (by omega)
  have h := (bits_nat .i64 62 (by decide) (fun n h0 h1 => wr (by omega) (by omega)) x (2 ^ n) (by omega) (by omega)).2
  rw [h]
  have e := Nat.two_pow_add_eq_or_of_lt hx 1
  rw [Nat.mul_one] at e
  rw [Nat.or_comm, ← e, Nat.add_comm]
theorem wrap_two {x c : Nat} (h : x ≤ 2 * 3) (hc : c < 100) : wrap64 (wrap64 ((x : Nat) : Int) + (c : Int)) = ((x + c : Nat) : Int) := by
  have e : wrap64 ((x : Nat) : Int) = ((x : Nat) : Int) := wrap_id (by omega) (by omega)
  rw [e, wrap_id (by omega) (by omega)]; omega
theorem eq_more {a b : List Int} {x2 x3 x4 x11 x12 res : Int} {K : Nat} (h : russ_eq.l0 K a b x2 x3 x4 x11 x12 = some res) : ∀ d, russ_eq.l0 (K + d) a b x2 x3 x4 x11 x12 = some res
  | 0 => h
  | d + 1 => (russ_eq.mono_l (K + d)).1 _ _ _ _ _ _ _ _ (eq_more h d)
theorem Eb_s {a b : List Int} {i j t : Nat} (n : Nat) : Eb a b i j t (n + 1) = Eb a b i j t n + if Mt a b (i + n / t) (j + n % t) then 2 ^ n else 0 := rfl
theorem Eb_tail {a b : List Int} {i j t n : Nat} : ∀ d, (∀ k, n ≤ k → k < n + d → ¬ Mt a b (i + k / t) (j + k % t)) → Eb a b i j t (n + d) = Eb a b i j t n
  | 0, _ => rfl
  | d + 1, h => by
    have e : Eb a b i j t (n + (d + 1)) = Eb a b i j t (n + d) + if Mt a b (i + (n + d) / t) (j + (n + d) % t) then 2 ^ (n + d) else 0 := rfl
    rw [e, if_neg (h (n + d) (by omega) (by omega)), Eb_tail d (fun k h1 h2 => h k h1 (by omega)), Nat.add_zero]
theorem rt_div {t r c : Nat} (hc : c < t) : (r * t + c) / t = r ∧ (r * t + c) % t = c := by
  rw [Nat.mul_comm, Nat.mul_add_div (by omega), Nat.mul_add_mod, Nat.div_eq_of_lt hc, Nat.mod_eq_of_lt hc]
  exact ⟨rfl, rfl⟩
section
variable {a b : List Int} {i j t : Nat} (ha : a.length ≤ 1000) (hb : b.length ≤ 1000) (hi : i ≤ 1000) (hj : j ≤ 1000) (ht : 1 ≤ t ∧ t ≤ 3)
include ha hb hi hj ht
theorem eq_l1 {r K : Nat} {res : Int} (hr : r < t) (hir : i + r < a.length) (hK : russ_eq.l0 K a b (i : Int) (j : Int) (t : Int) ((Eb a b i j t (r * t + t) : Nat) : Int) ((r + 1 : Nat) : Int) = some res) : ∀ m c, c + m = t →
    russ_eq.l1 (K + (2 * m + 2)) a b (i : Int) (j : Int) (t : Int) ((Eb a b i j t (r * t + c) : Nat) : Int) (r : Int) (c : Int) = some res := by
  have hrt : r * t ≤ 2 * 3 := Nat.mul_le_mul (by omega) (by omega)
  have ert : ((r * t : Nat) : Int) = (r : Int) * (t : Int) := by simp
  have w1 := Aside0.mk (show wrap64 ((i : Int) + (r : Int)) = ((i + r : Nat) : Int) from by rw [wrap_id (by omega) (by omega)]; omega)
  have w2 := Aside0.mk (show wrap64 ((r : Int) + 1) = ((r + 1 : Nat) : Int) from wrap_succ (by omega))
  intro m
  induction m with
  | zero =>
    intro c hc
    obtain rfl : c = t := by omega
    show russ_eq.l1 (K + 1 + 1) a b _ _ _ _ _ _ = _
    simp only [russ_eq.l1]
    rw [if_neg (by omega)]
    simp only [russ_eq.j3]
    rw [if_neg (by decide), w2.out]
    exact hK
  | succ m ih =>
    intro c hc
    have w3 := Aside0.mk (show wrap64 ((j : Int) + (c : Int)) = ((j + c : Nat) : Int) from by rw [wrap_id (by omega) (by omega)]; omega)
    have w4 := Aside0.mk (show wrap64 ((c : Int) + 1) = ((c + 1 : Nat) : Int) from wrap_succ (by omega))
    have w5 := Aside0.mk (show wrap64 (wrap64 ((r : Int) * (t : Int)) + (c : Int)) = ((r * t + c : Nat) : Int) from by rw [← ert]; exact wrap_two hrt (by omega))
    have dm := rt_div (t := t) (r := r) (c := c) (by omega)
    have hE := Eb_lt (a := a) (b := b) (i := i) (j := j) (t := t) (r * t + c)
    show russ_eq.l1 (K + (2 * m + 2) + 1 + 1) a b _ _ _ _ _ _ = _
    simp only [russ_eq.l1]
    rw [if_pos (by omega), w3.out]
    simp only [russ_eq.j3]
    by_cases g : j + c < b.length
    · rw [if_pos (by rw [decide_eq_true (by omega)]), w1.out, w3.out, w4.out, w5.out, if_pos (by omega), if_pos (by omega), if_pos (by omega), if_pos (by omega)]
      have e := ih (c + 1) (by omega)
      have eb : Eb a b i j t (r * t + (c + 1)) = Eb a b i j t (r * t + c) + if Mt a b (i + r) (j + c) then 2 ^ (r * t + c) else 0 := by
        show Eb a b i j t (r * t + c + 1) = _
        rw [Eb_s, dm.1, dm.2]
      by_cases g2 : rd a ((i + r : Nat) : Int) = rd b ((j + c : Nat) : Int)
      · rw [if_pos g2, if_pos (by omega), or_pow2 (by omega) hE]
        rw [eb, if_pos ⟨hir, g, g2⟩] at e
        exact e
      · rw [if_neg g2]
        rw [eb, if_neg (fun h => g2 h.2.2), Nat.add_zero] at e
        exact e
    · rw [if_neg (by rw [decide_eq_false (by omega)]; decide), w2.out]
      have et : Eb a b i j t (r * t + t) = Eb a b i j t (r * t + c) := by
        have := Eb_tail (a := a) (b := b) (i := i) (j := j) (t := t) (n := r * t + c) (t - c) (fun k h1 h2 hm => by
          obtain ⟨c', rfl⟩ : ∃ c', k = r * t + c' := ⟨k - r * t, by omega⟩
          have dm' := rt_div (t := t) (r := r) (c := c') (by omega)
          rw [dm'.1, dm'.2] at hm
          have := hm.2.1
          omega)
        rw [show r * t + c + (t - c) = r * t + t by omega] at this
        exact this
      rw [et] at hK
      exact eq_more hK (2 * m + 2)
theorem eq_l0 : ∀ m r, r + m = t → russ_eq.l0 ((2 * t + 4) * m + 2) a b (i : Int) (j : Int) (t : Int) ((Eb a b i j t (r * t) : Nat) : Int) (r : Int) = some ((Eb a b i j t (t * t) : Nat) : Int) := by
  intro m
  induction m with
  | zero =>
    intro r hr
    obtain rfl : r = t := by omega
    show russ_eq.l0 (0 + 1 + 1) a b _ _ _ _ _ = _
    simp only [russ_eq.l0]
    rw [if_neg (by omega)]
    simp only [russ_eq.j1]
    rw [if_neg (by decide)]
  | succ m ih =>
    intro r hr
    have w1 := Aside0.mk (show wrap64 ((i : Int) + (r : Int)) = ((i + r : Nat) : Int) from by rw [wrap_id (by omega) (by omega)]; omega)
    have ef : (2 * t + 4) * (m + 1) + 2 = (2 * t + 4) * m + 2 + (2 * t + 2) + 1 + 1 := by rw [Nat.mul_succ]; omega
    rw [ef]
    simp only [russ_eq.l0]
    rw [if_pos (by omega), w1.out]
    simp only [russ_eq.j1]
    by_cases g : i + r < a.length
    · rw [if_pos (by rw [decide_eq_true (by omega)])]
      have e := ih (r + 1) (by omega)
      have es : (r + 1) * t = r * t + t := Nat.succ_mul r t
      rw [es] at e
      exact eq_l1 ha hb hi hj ht (by omega) g e t 0 (by omega)
    · rw [if_neg (by rw [decide_eq_false (by omega)]; decide)]
      have hle : r * t ≤ t * t := Nat.mul_le_mul (by omega) (Nat.le_refl _)
      have := Eb_tail (a := a) (b := b) (i := i) (j := j) (t := t) (n := r * t) (t * t - r * t) (fun k h1 h2 hm => by
        have : r ≤ k / t := (Nat.le_div_iff_mul_le (by omega)).mpr h1
        have := hm.1
        omega)
      rw [show r * t + (t * t - r * t) = t * t by omega] at this
      rw [this]
theorem eq_f : russ_eq.f ((2 * t + 4) * t + 2) a b (i : Int) (j : Int) (t : Int) = some ((Eb a b i j t (t * t) : Nat) : Int) := by
  have h := eq_l0 ha hb hi hj ht t 0 (by omega)
  rw [Nat.zero_mul] at h
  exact h
end
theorem keyFrom_side {d : List Int} {at' t : Nat} (hd : ∀ c, c < t → rd d ((at' + c : Nat) : Int) = 0 ∨ rd d ((at' + c : Nat) : Int) = 1) (hl : at' + t ≤ d.length) : ∀ m k, k + m = t → ∀ s, keyFrom d at' t (m + s) k (side (fun c => rd d ((at' + c : Nat) : Int)) k) = side (fun c => rd d ((at' + c : Nat) : Int)) t
  | 0, k, hk, s => by
    obtain rfl : k = t := by omega
    cases s with
    | zero => rfl
    | succ s =>
      show (if _ then _ else _) = _
      rw [if_neg (by omega)]
  | m + 1, k, hk, s => by
    have e : m + 1 + s = m + s + 1 := by omega
    rw [e, keyFrom, if_pos ⟨by omega, by omega⟩]
    have hs := keyFrom_side hd hl m (k + 1) (by omega) s
    have e2 : (if rd d ((at' + k : Nat) : Int) = 0 then side (fun c => rd d ((at' + c : Nat) : Int)) k else side (fun c => rd d ((at' + c : Nat) : Int)) k + 2 ^ k) = side (fun c => rd d ((at' + c : Nat) : Int)) (k + 1) := by
      show _ = side (fun c => rd d ((at' + c : Nat) : Int)) k + rd d ((at' + k : Nat) : Int) * 2 ^ k
      rcases hd k (by omega) with h | h
      · rw [if_pos h, h]; omega
      · rw [if_neg (by omega), h]; omega
    rw [e2]
    exact hs
theorem key_f {d : List Int} {at' t : Nat} (ht : 1 ≤ t ∧ t ≤ 3) (hd : ∀ c, c < t → rd d ((at' + c : Nat) : Int) = 0 ∨ rd d ((at' + c : Nat) : Int) = 1) (hl : at' + t ≤ d.length) (hle : d.length ≤ 1000000) : delta_Key.f 11 d (at' : Int) (t : Int) = some (side (fun c => rd d ((at' + c : Nat) : Int)) t) := by
  rw [deltaKey d hle _ _ (by omega)]
  unfold keySpec
  rw [if_neg (by omega), Int.toNat_natCast, Int.toNat_natCast]
  congr 1
  have := keyFrom_side hd hl t 0 (by omega) (4 - t)
  rw [show t + (4 - t) = 4 by omega] at this
  exact this
end Go.Proofs.Ytpdjdffimighkaa.Tile
