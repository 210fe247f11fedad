/- tattinglaw14.of, awake; the table is L. -/
import Derived.Test.YtpdjdffimighkaaZHRq
namespace Go.Proofs.Ytpdjdffimighkaa.Tile
open Go.RowKit Go.Proofs.Ytpdjdffimighkaa.PRussRuns Go.Proofs.YtpdjdffimighkaaW.PrintWords Go.Proofs.YtpdjdffimighkaaW.PrintLast Go.Proofs.YtpdjdffimighkaaW.PrintMore
set_option linter.unusedVariables false
set_option linter.unusedSimpArgs false
theorem of_calls {x : Nat} (hx : x < 256) (w : World) : Calls Try.prog 7 #[.int .u8 (x : Int)] w fun e w' => e = .returned (.pointer (some ⟨w.heap.size, 0, none⟩)) ∧ w' = w.alloc (.cells (blk (1 + x % 3) 0 0 (.slice none 0 0)) 65) := by
  have hw : IntKind.i64.wrap (x : Int) = (x : Int) := wr (by omega) (by omega)
  have h3 : x % 3 = 0 ∨ x % 3 = 1 ∨ x % 3 = 2 := by omega
  have e3 : (x : Int).tmod 3 = ((x % 3 : Nat) : Int) := by rw [Int.tmod_eq_emod_of_nonneg (by omega)]; exact (Int.natCast_emod _ _).symm
  rcases h3 with h | h | h
  · rw [h] at e3 ⊢
    have e3 : (x : Int).tmod 3 = 0 := e3
    go_enter Try.func7, Try.ntmps7
    go_wp2_with (go_at_call 16; refine (new_ok (t := 1) (by decide) _).mono ?_; rintro e w' ⟨rfl, rfl⟩)
    go_ret
    exact ⟨rfl, rfl⟩
  · rw [h] at e3 ⊢
    have e3 : (x : Int).tmod 3 = 1 := e3
    go_enter Try.func7, Try.ntmps7
    go_wp2_with (go_at_call 16; refine (new_ok (t := 2) (by decide) _).mono ?_; rintro e w' ⟨rfl, rfl⟩)
    go_ret
    exact ⟨rfl, rfl⟩
  · rw [h] at e3 ⊢
    have e3 : (x : Int).tmod 3 = 2 := e3
    go_enter Try.func7, Try.ntmps7
    go_wp2_with (go_at_call 16; refine (new_ok (t := 3) (by decide) _).mono ?_; rintro e w' ⟨rfl, rfl⟩)
    go_ret
    exact ⟨rfl, rfl⟩
theorem lit_C {W : World} {g : Nat} (xs : List Int) (h : W.heap[g]? = some (.cells (xs.map (Value.int .i64)).toArray 3 (0, 0))) (hn : xs.length ≤ 1000) : Kd.C (Kd.int .i64) W (some ⟨g, 0, none⟩) xs.length xs := by
  refine Kd.C_of_reads (d := (0 : Int)) (h1 := fun _ => rfl) ⟨rfl, by omega, fun _ => ⟨_, rfl, fun j hj => ?_⟩⟩
  have e : (⟨g, 0, none⟩ : Addr).add j = ⟨g, j, none⟩ := by simp [Addr.add]; exact fun h => h.symm
  rw [e, blk_cell h j]
  simp [hj, List.getD_eq_getElem?_getD]
theorem lit_held {w : World} {b g : Nat} (xs : List Int) (h : w.heap[g]? = some (.cells (xs.map (Value.int .i64)).toArray 3 (0, 0))) (hn : xs.length ≤ 1000) (hb : g ≠ b) : ∀ W', Kept w W' (fun k => k = b) → Kd.C (Kd.int .i64) W' (some ⟨g, 0, none⟩) xs.length xs := fun W' hk => lit_C xs ((hk.2 g (blk_lt h) hb).trans h) hn
set_option maxRecDepth 100000 in
theorem run_none {A1 A2 : Option Addr} {n1 n2 c1 c2 : Nat} (w : World) : Calls Try.prog 10 #[.pointer none, .slice A1 n1 c1, .slice A2 n2 c2] w fun e w' => e = .returned (.tuple #[.slice none 0 0, .int .i64 0, .int .i64 1]) ∧ w = w' := by
  go_enter Try.func10, Try.ntmps10
  go_wp2
  go_ret3
  exact ⟨rfl, rfl⟩
theorem of2 (w : World) : Calls Try.prog 7 #[.int .u8 1] w fun e w' => e = .returned (.pointer (some ⟨w.heap.size, 0, none⟩)) ∧ w' = w.alloc (.cells (blk 2 0 0 (.slice none 0 0)) 65) := of_calls (x := 1) (by decide) w
theorem awake_rev : api_Pair.f 10 (pairsP (pathF [1, 2, 3] [1, 9, 2, 8, 3] 8 3 5)) = some [⟨0, 0⟩, ⟨1, 2⟩, ⟨2, 4⟩] := by kernel_rfl
theorem awake_len : Tb [1, 2, 3] [3, 2, 1] (upN ([1, 2, 3] : List Int).length 2 * 2) (upN ([3, 2, 1] : List Int).length 2 * 2) = 1 := by decide +kernel
set_option maxRecDepth 100000 in
set_option maxHeartbeats 4000000 in
theorem awake (w : World) : Calls Try.prog 8 #[] w fun e w' => e = .returned (.bool true) ∧ Below w.heap.size w w' := by
  go_enter Try.func8, Try.ntmps8
  go_wp2_with fail
  refine (of2 _).mono ?_
  rintro e w' ⟨rfl, rfl⟩
  have T1 := Aside0.mk (Tl.new (t := 2) (by decide) w)
  have B1 := Aside0.mk (below_alloc (Below.refl w.heap.size w) (.cells (blk 2 0 0 (.slice none 0 0)) 65))
  have hz1 : (w.alloc (.cells (blk 2 0 0 (.slice none 0 0)) 65)).heap.size = w.heap.size + 1 := World.size_alloc _ _
  have Z1 := Aside0.mk hz1
  clear hz1
  generalize (w.alloc (.cells (blk 2 0 0 (.slice none 0 0)) 65)) = w1 at T1 B1 Z1 ⊢
  go_wp2_with fail
  have hs1 := Z1.out
  have ha1 : ((w1.alloc (.cells #[.int .i64 1, .int .i64 2, .int .i64 3] 3)).alloc (.cells #[.int .i64 1, .int .i64 9, .int .i64 2, .int .i64 8, .int .i64 3] 3)).heap[w1.heap.size]? = some (.cells (([1, 2, 3] : List Int).map (Value.int .i64)).toArray 3 (0, 0)) := blk_alloc (blk_new w1 _) _
  have hb1 : ((w1.alloc (.cells #[.int .i64 1, .int .i64 2, .int .i64 3] 3)).alloc (.cells #[.int .i64 1, .int .i64 9, .int .i64 2, .int .i64 8, .int .i64 3] 3)).heap[w1.heap.size + 1]? = some (.cells (([1, 9, 2, 8, 3] : List Int).map (Value.int .i64)).toArray 3 (0, 0)) := by
    have := blk_new (w1.alloc (.cells #[.int .i64 1, .int .i64 2, .int .i64 3] 3)) (.cells #[.int .i64 1, .int .i64 9, .int .i64 2, .int .i64 8, .int .i64 3] 3)
    rw [World.size_alloc] at this
    exact this
  have B2 : Below w1.heap.size w1 ((w1.alloc (.cells #[.int .i64 1, .int .i64 2, .int .i64 3] 3)).alloc (.cells #[.int .i64 1, .int .i64 9, .int .i64 2, .int .i64 8, .int .i64 3] 3)) := below_alloc (below_alloc (Below.refl _ _) _) _
  generalize ((w1.alloc (.cells #[.int .i64 1, .int .i64 2, .int .i64 3] 3)).alloc (.cells #[.int .i64 1, .int .i64 9, .int .i64 2, .int .i64 8, .int .i64 3] 3)) = w2 at ha1 hb1 B2 ⊢
  refine (run_calls (n0 := w.heap.size) (la := [1, 2, 3]) (lb := [1, 9, 2, 8, 3]) (A1 := some ⟨w1.heap.size, 0, none⟩) (A2 := some ⟨w1.heap.size + 1, 0, none⟩) (c1 := 3) (c2 := 5) w2 (T1.out.below B2) (by decide) (by decide) (by decide) (by decide) (Nat.le_refl _) awake_rev (lit_held _ ha1 (by decide) (by omega)) (lit_held _ hb1 (by decide) (by omega))).mono ?_
  rintro e w3 ⟨v, rfl, hR, hT3, _, hB3⟩
  obtain ⟨A, c, rfl, _, _⟩ := Kd.R_reads hR
  have h6 : ((upN ([1, 2, 3] : List Int).length 2 * upN ([1, 9, 2, 8, 3] : List Int).length 2 : Nat) : Int) = 6 := by decide
  rw [h6]
  have T3 := Aside0.mk hT3
  have C3 := Aside0.mk ((B1.out.trans (B2.mono (by omega))).trans hB3)
  clear hR hT3 hB3 ha1 hb1 B2 T1 B1 hs1
  go_wp2_with fail
  have ha1 : ((w3.alloc (.cells #[.int .i64 1, .int .i64 2, .int .i64 3] 3)).alloc (.cells #[.int .i64 3, .int .i64 2, .int .i64 1] 3)).heap[w3.heap.size]? = some (.cells (([1, 2, 3] : List Int).map (Value.int .i64)).toArray 3 (0, 0)) := blk_alloc (blk_new w3 _) _
  have hb1 : ((w3.alloc (.cells #[.int .i64 1, .int .i64 2, .int .i64 3] 3)).alloc (.cells #[.int .i64 3, .int .i64 2, .int .i64 1] 3)).heap[w3.heap.size + 1]? = some (.cells (([3, 2, 1] : List Int).map (Value.int .i64)).toArray 3 (0, 0)) := by
    have := blk_new (w3.alloc (.cells #[.int .i64 1, .int .i64 2, .int .i64 3] 3)) (.cells #[.int .i64 3, .int .i64 2, .int .i64 1] 3)
    rw [World.size_alloc] at this
    exact this
  have B4 : Below w3.heap.size w3 ((w3.alloc (.cells #[.int .i64 1, .int .i64 2, .int .i64 3] 3)).alloc (.cells #[.int .i64 3, .int .i64 2, .int .i64 1] 3)) := below_alloc (below_alloc (Below.refl _ _) _) _
  have hb3 := T3.out.lt
  have hsz3 := C3.out.size
  generalize ((w3.alloc (.cells #[.int .i64 1, .int .i64 2, .int .i64 3] 3)).alloc (.cells #[.int .i64 3, .int .i64 2, .int .i64 1] 3)) = w4 at ha1 hb1 B4 ⊢
  refine (len_calls (n0 := w.heap.size) (la := [1, 2, 3]) (lb := [3, 2, 1]) (A1 := some ⟨w3.heap.size, 0, none⟩) (A2 := some ⟨w3.heap.size + 1, 0, none⟩) (c1 := 3) (c2 := 3) w4 (T3.out.below B4) (by decide) (by decide) (by decide) (by decide) (Nat.le_refl _) (lit_held _ ha1 (by decide) (by omega)) (lit_held _ hb1 (by decide) (by omega))).mono ?_
  rintro e w5 ⟨rfl, _, _, hB5⟩
  rw [awake_len]
  have C5 := Aside0.mk ((C3.out.trans (B4.mono hsz3)).trans hB5)
  clear hB5 ha1 hb1 B4 T3 C3 hb3 hsz3
  go_wp2_with fail
  go_ret
  exact ⟨rfl, C5.out⟩
/-- The longest common subsequence's length. -/
def L : List Int → List Int → Nat
  | [], _ => 0
  | _ :: _, [] => 0
  | x :: xs, y :: ys => if x = y then L xs ys + 1 else max (L xs (y :: ys)) (L (x :: xs) ys)
termination_by a b => a.length + b.length
theorem L_nil_left (b : List Int) : L [] b = 0 := by rw [L]
theorem L_nil_right (a : List Int) : L a [] = 0 := by cases a <;> rw [L]
theorem L_cons_eq (x : Int) (xs ys : List Int) : L (x :: xs) (x :: ys) = L xs ys + 1 := by rw [L, if_pos rfl]
theorem L_cons_ne {x y : Int} (h : x ≠ y) (xs ys : List Int) : L (x :: xs) (y :: ys) = max (L xs (y :: ys)) (L (x :: xs) ys) := by rw [L, if_neg h]
theorem L_ub (a b : List Int) : ∀ s : List Int, s.Sublist a → s.Sublist b → s.length ≤ L a b := by
  induction a, b using L.induct with
  | case1 b => intro s h _; rw [List.sublist_nil.mp h]; simp
  | case2 x xs => intro s _ h; rw [List.sublist_nil.mp h]; simp
  | case3 xs y ys ih =>
    intro s h1 h2
    rw [L_cons_eq]
    have h3 := ih s.tail (by simpa using h1.tail) (by simpa using h2.tail)
    have h4 : s.length ≤ s.tail.length + 1 := by rw [List.length_tail]; omega
    omega
  | case4 x xs y ys hne ih1 ih2 =>
    intro s h1 h2
    rw [L_cons_ne hne]
    rcases List.sublist_cons_iff.mp h1 with h | ⟨r, rfl, hr⟩
    · have := ih1 s h h2; omega
    · rcases List.sublist_cons_iff.mp h2 with h | ⟨r', he, hr'⟩
      · have := ih2 _ h1 h; omega
      · injection he with he1 he2; exact absurd he1 hne
theorem L_has (a b : List Int) : ∃ s : List Int, s.Sublist a ∧ s.Sublist b ∧ s.length = L a b := by
  induction a, b using L.induct with
  | case1 b => exact ⟨[], by simp, by simp, by rw [L_nil_left]; rfl⟩
  | case2 x xs => exact ⟨[], by simp, by simp, by rw [L_nil_right]; rfl⟩
  | case3 xs y ys ih =>
    obtain ⟨s, h1, h2, h3⟩ := ih
    exact ⟨y :: s, h1.cons_cons y, h2.cons_cons y, by rw [L_cons_eq]; simp [h3]⟩
  | case4 x xs y ys hne ih1 ih2 =>
    obtain ⟨s, h1, h2, h3⟩ := ih1
    obtain ⟨t, k1, k2, k3⟩ := ih2
    rw [L_cons_ne hne]
    by_cases h : L (x :: xs) ys ≤ L xs (y :: ys)
    · exact ⟨s, h1.cons x, h2, by omega⟩
    · exact ⟨t, k1, k2.cons y, by omega⟩
theorem L_le_of (a b c d : List Int) (h : ∀ s : List Int, s.Sublist a → s.Sublist b → ∃ t : List Int, t.length = s.length ∧ t.Sublist c ∧ t.Sublist d) : L a b ≤ L c d := by
  obtain ⟨s, h1, h2, h3⟩ := L_has a b
  obtain ⟨t, k1, k2, k3⟩ := h s h1 h2
  have := L_ub c d t k2 k3
  omega
theorem L_mono {a b c d : List Int} (h : a.Sublist c) (k : b.Sublist d) : L a b ≤ L c d :=
  L_le_of _ _ _ _ fun s h1 h2 => ⟨s, rfl, h1.trans h, h2.trans k⟩
theorem L_rev_le (a b : List Int) : L a b ≤ L a.reverse b.reverse :=
  L_le_of _ _ _ _ fun s h k => ⟨s.reverse, by simp, h.reverse, k.reverse⟩
theorem L_rev (a b : List Int) : L a.reverse b.reverse = L a b :=
  Nat.le_antisymm (by simpa using L_rev_le a.reverse b.reverse) (L_rev_le a b)
theorem L_le_left (a b : List Int) : L a b ≤ a.length := by
  obtain ⟨s, h1, _, h3⟩ := L_has a b
  have := h1.length_le; omega
/-- The same, from the end. -/
theorem L_snoc_eq (x : Int) (a b : List Int) : L (a ++ [x]) (b ++ [x]) = L a b + 1 := by
  rw [← L_rev]; simp only [List.reverse_append, List.reverse_cons, List.reverse_nil, List.nil_append, List.singleton_append]; rw [L_cons_eq, L_rev]
theorem L_snoc_ne {x y : Int} (h : x ≠ y) (a b : List Int) : L (a ++ [x]) (b ++ [y]) = max (L a (b ++ [y])) (L (a ++ [x]) b) := by
  have e1 : L a (b ++ [y]) = L a.reverse (y :: b.reverse) := by rw [← L_rev]; simp
  have e2 : L (a ++ [x]) b = L (x :: a.reverse) b.reverse := by rw [← L_rev]; simp
  rw [← L_rev, e1, e2]; simp only [List.reverse_append, List.reverse_cons, List.reverse_nil, List.nil_append, List.singleton_append]; rw [L_cons_ne h]
theorem Tb_L {a b : List Int} (i j : Nat) : Tb a b i j = ((L (a.take i) (b.take j) : Nat) : Int) := by
  induction i generalizing j with
  | zero => rw [Tb_0, List.take_zero, L_nil_left]; rfl
  | succ i ihi =>
    induction j with
    | zero => rw [Tb_i0, List.take_zero, L_nil_right]; rfl
    | succ j ihj =>
      rw [Tb_ss, ihi j, ihi (j + 1), ihj]
      have m1 : L (a.take i) (b.take (j + 1)) ≤ L (a.take (i + 1)) (b.take (j + 1)) := L_mono (List.take_sublist_take_left (by omega)) (List.Sublist.refl _)
      have m2 : L (a.take (i + 1)) (b.take j) ≤ L (a.take (i + 1)) (b.take (j + 1)) := L_mono (List.Sublist.refl _) (List.take_sublist_take_left (by omega))
      by_cases hi : i < a.length
      · by_cases hj : j < b.length
        · have ea : a.take (i + 1) = a.take i ++ [a.getD i 0] := by rw [List.take_succ_eq_append_getElem hi, List.getD_eq_getElem?_getD, List.getElem?_eq_getElem hi]; rfl
          have eb : b.take (j + 1) = b.take j ++ [b.getD j 0] := by rw [List.take_succ_eq_append_getElem hj, List.getD_eq_getElem?_getD, List.getElem?_eq_getElem hj]; rfl
          by_cases g : a.getD i 0 = b.getD j 0
          · rw [if_pos ⟨hi, hj, g⟩, ea, eb, g, L_snoc_eq]; simp
          · rw [if_neg (fun h => g h.2.2)]
            have h := L_snoc_ne g (a.take i) (b.take j)
            rw [← ea, ← eb] at h
            rw [h]
            split <;> omega
        · rw [if_neg (fun h => hj h.2.1)]
          have e : b.take (j + 1) = b.take j := by rw [List.take_of_length_le (by omega), List.take_of_length_le (by omega)]
          rw [e] at m1 ⊢
          split <;> omega
      · rw [if_neg (fun h => hi h.1)]
        have e : a.take (i + 1) = a.take i := by rw [List.take_of_length_le (by omega), List.take_of_length_le (by omega)]
        rw [e] at m2 ⊢
        split <;> omega
/-- Beyond both lengths the table's number is the whole lists'. -/
theorem Tb_end {a b : List Int} {i j : Nat} (hi : a.length ≤ i) (hj : b.length ≤ j) : Tb a b i j = ((L a b : Nat) : Int) := by
  rw [Tb_L, List.take_of_length_le hi, List.take_of_length_le hj]
end Go.Proofs.Ytpdjdffimighkaa.Tile
