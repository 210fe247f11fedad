/- tattingref12.Square: what it computes. -/
import Derived.Test.YtfldkfccdjdofaaHTc
namespace Go.Proofs.Ytfldkfccdjdofaa.Tile
open Go.RowKit Go.Proofs.YtfldkfccdjdofaaW.PrintWords Go.Proofs.YtfldkfccdjdofaaW.PrintLast Go.Proofs.YtfldkfccdjdofaaW.PrintMore
set_option linter.unusedVariables false
set_option linter.unusedSimpArgs false
noncomputable def Rf.body : Nat → Option Code
  | 19 => Try.f19.body
  | 13 => Try.f13.body
  | _ => none
noncomputable def Rf.ops (f k : Nat) : Array Oper := ((Rf.body f).bind fun c => opsIn c k).getD #[]
theorem Ev.oth {a b : Act} {N M : Nat} {v x : Value} (q : b = a.put (some N) v) (h : N ≠ M) (e : a.eval (.tmp M) = x) : b.eval (.tmp M) = x := by rw [q, Ev.other h]; exact e
theorem Ev.sam {a b : Act} {N : Nat} {v : Value} (q : b = a.put (some N) v) (h : N < a.tmps.size) : b.eval (.tmp N) = v := by rw [q, Ev.same h]
theorem wu {x : Int} (h0 : 0 ≤ x) (h1 : x < 18446744073709551616) : IntKind.u64.wrap x = x := by
  simp [IntKind.wrap, IntKind.signed, IntKind.bits]; omega
theorem Ev.load56 {W : World} {p : Addr} {v : Value} (hc : W.cell? p = some v) : (Instr.loadAt 56 (.pointer (some p))).run Try.prog W = .ok v W := by
  go_simp
/-- A row of numbers. -/
def tab3 (n : Nat) (H : Nat → Int) : Array Value := ((List.range n).map fun i => Value.int .i64 (H i)).toArray
/-- The rows made so far. -/
def rowsP (n r : Nat) (gs : Nat → Nat) : Array Value := ((List.range n).map fun i => if i < r then Value.slice (some ⟨gs i, 0, none⟩) n n else .slice none 0 0).toArray
theorem rowsP_cell {W : World} {go n r i : Nat} {gs : Nat → Nat} (h : W.heap[go]? = some (.cells (rowsP n r gs) 56 (0, 0))) (hi : i < n) : ∃ u, W.cell? ⟨go, i, none⟩ = some u := by
  refine ⟨_, (blk_cell h i).trans (by simp [rowsP, hi]; rfl)⟩
theorem tab3_set {W : World} {g N : Nat} {H : Nat → Int} {i : Nat} (h : W.heap[g]? = some (.cells (tab3 N H) 3 (0, 0))) (x : Int) : (W.setCell ⟨g, i, none⟩ (.int .i64 x)).heap[g]? = some (.cells (tab3 N (upd H i x)) 3 (0, 0)) := by
  have h1 := blk_set h i (.int .i64 x)
  rw [h1]
  congr 2
  unfold tab3
  apply Array.ext
  · simp
  · intro j h1 h2
    simp at h1 h2
    simp [Array.getElem_setIfInBounds, upd]
    by_cases e : i = j
    · subst e; simp
    · rw [List.getElem_set_ne e, if_neg (fun q => e q.symm)]
      simp
/-- The matrix in memory: the row of rows, and each row. -/
structure Mx (W : World) (go n : Nat) (gs : Nat → Nat) (G : Nat → Nat → Int) : Prop where
  top : W.heap[go]? = some (.cells (rowsP n n gs) 56 (0, 0))
  rows : ∀ r, r < n → W.heap[gs r]? = some (.cells (tab3 n (G r)) 3 (0, 0))
  apart : ∀ r r', r < n → r' < n → gs r = gs r' → r = r'
theorem Mx.row {W : World} {go n r : Nat} {gs : Nat → Nat} {G : Nat → Nat → Int} (h : Mx W go n gs G) (hr : r < n) : W.cell? ⟨go, r, none⟩ = some (.slice (some ⟨gs r, 0, none⟩) n n) := (blk_cell h.top r).trans (by simp [rowsP, hr])
theorem Mx.el {W : World} {go n r c : Nat} {gs : Nat → Nat} {G : Nat → Nat → Int} (h : Mx W go n gs G) (hr : r < n) (hc : c < n) : W.cell? ⟨gs r, c, none⟩ = some (.int .i64 (G r c)) := (blk_cell (h.rows r hr) c).trans (by simp [tab3, hc])
theorem Mx.fr {W : World} {go n r c : Nat} {gs : Nat → Nat} {G : Nat → Nat → Int} (h : Mx W go n gs G) (hr : r < n) : W.frozen? ⟨gs r, c, none⟩ = false := blk_frozen (h.rows r hr) c
def upd2 (G : Nat → Nat → Int) (r c : Nat) (x : Int) : Nat → Nat → Int := fun i => if i = r then upd (G r) c x else G i
theorem Mx.set {W : World} {go n r c : Nat} {gs : Nat → Nat} {G : Nat → Nat → Int} (h : Mx W go n gs G) (hr : r < n) (x : Int) : Mx (W.setCell ⟨gs r, c, none⟩ (.int .i64 x)) go n gs (upd2 G r c x) := by
  have hne : go ≠ gs r := by
    intro e
    have h1 := h.top
    have h2 := h.rows r hr
    rw [e, h2] at h1
    injection h1 with h1
    injection h1 with _ h3
    exact absurd h3 (by decide)
  refine ⟨(Below.heap_setCell W ⟨gs r, c, none⟩ _ go hne).trans h.top, fun r' hr' => ?_, h.apart⟩
  by_cases e : r' = r
  · subst e
    have := tab3_set (i := c) (h.rows r' hr) x
    rw [this]
    unfold upd2
    rw [if_pos rfl]
  · refine (Below.heap_setCell W ⟨gs r, c, none⟩ _ (gs r') (fun q => e (h.apart r' r hr' hr q))).trans ?_
    unfold upd2
    rw [if_neg e]
    exact h.rows r' hr'
theorem run_row (w : World) (N : Nat) (hN : N ≤ 32768) : (Instr.makeSlice 56 (.int .i64 (N : Int)) (.int .i64 (N : Int))).run Try.prog w = .ok (.slice (some ⟨w.heap.size, 0, none⟩) N N) (w.alloc (.cells (tab3 N (fun _ => 0)) 3)) := by
  have h : (Try.prog.info? 3).map (fun i => (i.zero, i.size, i.bytes)) = some (some (.int .i64 0), 1, 8) := by kernel_rfl
  obtain ⟨i, hi, h0, h1, h2⟩ := info_parts h
  have := run_makeSlice (P := Try.prog) w 56 3 i (.int .i64 0) Try.underlying56 hi h0 .i64 .i64 (N : Int) (N : Int) (by omega) (by omega) (by rw [h1]; simp; omega) (by rw [h2]; simp; omega) (by omega)
  rw [this, Int.toNat_natCast, h1, Nat.mul_one]
  congr 3
  unfold madeCells tab3
  apply Array.ext
  · simp
  · intro j h1 h2
    simp [Value.cells, Nat.mod_one]
theorem run_rows (w : World) (N : Nat) (hN : N ≤ 32768) : (Instr.makeSlice 54 (.int .i64 (N : Int)) (.int .i64 (N : Int))).run Try.prog w = .ok (.slice (some ⟨w.heap.size, 0, none⟩) N N) (w.alloc (.cells (rowsP N 0 (fun _ => 0)) 56)) := by
  have h : (Try.prog.info? 56).map (fun i => (i.zero, i.size, i.bytes)) = some (some (.slice none 0 0), 1, 24) := by kernel_rfl
  obtain ⟨i, hi, h0, h1, h2⟩ := info_parts h
  have := run_makeSlice (P := Try.prog) w 54 56 i (.slice none 0 0) Try.underlying54 hi h0 .i64 .i64 (N : Int) (N : Int) (by omega) (by omega) (by rw [h1]; simp; omega) (by rw [h2]; simp; omega) (by omega)
  rw [this, Int.toNat_natCast, h1, Nat.mul_one]
  congr 3
  unfold madeCells rowsP
  apply Array.ext
  · simp
  · intro j h1 h2
    simp [Value.cells, Nat.mod_one]
set_option maxHeartbeats 2000000 in
theorem Rg.u9 {id : Nat} {Q : Exit → Act → World → Prop} {a : Act} {W : World} {go t k : Nat} {gs : Nat → Nat} {x bt : Int} {G : Nat → Nat → Int}
    (hsz : a.tmps.size = 133) (hP : ∀ c a a' w, a'.defers = a.defers → Q (.panic c) a w → Q (.panic c) a' w)  (h9 : a.eval (.tmp 9) = .slice (some ⟨go, 0, none⟩) (t + 1) (t + 1)) (h11 : a.eval (.tmp 11) = .int .i64 ((k + 1 : Nat) : Int)) (h2 : a.eval (.tmp 2) = .int .i64 (x)) (hG : Mx W.drew go (t + 1) gs G) (ht : t ≤ 3) (hk : k < t) (hb : bits .and .i64 (x / 2 ^ k) 1 = bt) (hbt : 0 ≤ bt ∧ bt ≤ 1) (hg : 0 ≤ G 0 k ∧ G 0 k ≤ 100)
    (hQ : ∀ a', Ev.Stay [33, 34, 35, 36, 37, 38, 39, 40, 41, 42, 43, 44, 45, 46, 47, 48, 49, 50, 51] a a' → Q .normal a' (W.drew.setCell ⟨gs 0, k + 1, none⟩ (.int .i64 (G 0 k + bt)))) : (Code.region id (Rf.ops 19 9) true).wp Try.prog Q a W := by
  have hops : Rf.ops 19 9 = List.toArray [_, _, _, _, _, _, _, _, _, _, _, _, _, _, _, _, _, _, _, _] := rfl
  refine start_ (S := fun w_ => Mx w_ go (t + 1) gs G) (ds := [19]) #[false, false, false, false, false, false, false, false, false, false, false, false, false, false, false, false, false, false, false, false] (by kernel_rfl) (n := 20) rfl rfl ?S0 (fun hHeld => ?_)
  case S0 => exact hG
  have k0 : Ev.Stay [33, 34, 35, 36, 37, 38, 39, 40, 41, 42, 43, 44, 45, 46, 47, 48, 49, 50, 51] a a := Ev.Stay.refl [33, 34, 35, 36, 37, 38, 39, 40, 41, 42, 43, 44, 45, 46, 47, 48, 49, 50, 51] a
  refine pure_ (i := 0) (N := some 33) (v := .slice (some ⟨go, 0, none⟩) (t + 1) (t + 1)) #[true, false, false, false, false, false, false, false, false, false, false, false, false, false, false, false, false, false, false, false] (Rg.of hops Rg.at0) rfl (by kernel_rfl) (fun c _ _ h => hP c _ _ _ (by rfl) h) (Or.inl ⟨Ev.wanted rfl, fun w_ => ?_⟩) rfl ?_
  · unfold execOp
    generalize a.eval = ev at *
    go_simp
  obtain ⟨a1, qa1⟩ : ∃ z_, z_ = a.put (some 33) (.slice (some ⟨go, 0, none⟩) (t + 1) (t + 1)) := ⟨_, rfl⟩
  have k1 : Ev.Stay [33, 34, 35, 36, 37, 38, 39, 40, 41, 42, 43, 44, 45, 46, 47, 48, 49, 50, 51] a a1 := by rw [qa1]; exact k0.put (by decide) _
  have e1_9 := Ev.oth qa1 (by decide) h9
  have e1_11 := Ev.oth qa1 (by decide) h11
  have e1_2 := Ev.oth qa1 (by decide) h2
  have e1_33 := Ev.sam qa1 (by rw [k0.1, hsz]; decide)
  rw [← qa1]
  clear qa1 
  refine pure_ (i := 1) (N := some 34) (v := .pointer (some ⟨go, 0, none⟩)) #[true, true, false, false, false, false, false, false, false, false, false, false, false, false, false, false, false, false, false, false] (Rg.of hops (Rg.atS Rg.at0)) rfl (by kernel_rfl) (fun c _ _ h => hP c _ _ _ (by rfl) h) (Or.inl ⟨Ev.wanted rfl, fun w_ => ?_⟩) rfl ?_
  · have ec0 : a1.eval (.const (.int .i64 (0))) = .int .i64 (0) := rfl
    have lk_ : (0 : Int) < (t : Int) + 1 := by omega
    unfold execOp
    generalize a1.eval = ev at *
    go_simp
  obtain ⟨a2, qa2⟩ : ∃ z_, z_ = a1.put (some 34) (.pointer (some ⟨go, 0, none⟩)) := ⟨_, rfl⟩
  have k2 : Ev.Stay [33, 34, 35, 36, 37, 38, 39, 40, 41, 42, 43, 44, 45, 46, 47, 48, 49, 50, 51] a a2 := by rw [qa2]; exact k1.put (by decide) _
  have e2_9 := Ev.oth qa2 (by decide) e1_9
  have e2_11 := Ev.oth qa2 (by decide) e1_11
  have e2_2 := Ev.oth qa2 (by decide) e1_2
  have e2_33 := Ev.oth qa2 (by decide) e1_33
  have e2_34 := Ev.sam qa2 (by rw [k1.1, hsz]; decide)
  rw [← qa2]
  clear qa2 e1_9 e1_11 e1_2 e1_33
  clear e2_33
  refine take_ (i := 2) (N := some 35) (v := .slice (some ⟨gs (0), 0, none⟩) (t + 1) (t + 1)) #[true, true, true, false, false, false, false, false, false, false, false, false, false, false, false, false, false, false, false, false] (Rg.of hops (Rg.atS (Rg.atS Rg.at0))) rfl (by kernel_rfl) (fun c _ _ h => hP c _ _ _ (by rfl) h) (Ev.loadW (Ev.wanted rfl) rfl e2_34 (fun w hw => Ev.load56 (hw.row (by omega)))) hHeld rfl ?_
  obtain ⟨a3, qa3⟩ : ∃ z_, z_ = a2.put (some 35) (.slice (some ⟨gs (0), 0, none⟩) (t + 1) (t + 1)) := ⟨_, rfl⟩
  have k3 : Ev.Stay [33, 34, 35, 36, 37, 38, 39, 40, 41, 42, 43, 44, 45, 46, 47, 48, 49, 50, 51] a a3 := by rw [qa3]; exact k2.put (by decide) _
  have e3_9 := Ev.oth qa3 (by decide) e2_9
  have e3_11 := Ev.oth qa3 (by decide) e2_11
  have e3_2 := Ev.oth qa3 (by decide) e2_2
  have e3_34 := Ev.oth qa3 (by decide) e2_34
  have e3_35 := Ev.sam qa3 (by rw [k2.1, hsz]; decide)
  rw [← qa3]
  clear qa3 e2_9 e2_11 e2_2 e2_34
  clear e3_34
  refine pure_ (i := 3) (N := some 36) (v := .int .i64 ((k + 1 : Nat) : Int)) #[true, true, true, true, false, false, false, false, false, false, false, false, false, false, false, false, false, false, false, false] (Rg.of hops (Rg.atS (Rg.atS (Rg.atS Rg.at0)))) rfl (by kernel_rfl) (fun c _ _ h => hP c _ _ _ (by rfl) h) (Or.inl ⟨Ev.wanted rfl, fun w_ => ?_⟩) rfl ?_
  · unfold execOp
    generalize a3.eval = ev at *
    go_simp
  obtain ⟨a4, qa4⟩ : ∃ z_, z_ = a3.put (some 36) (.int .i64 ((k + 1 : Nat) : Int)) := ⟨_, rfl⟩
  have k4 : Ev.Stay [33, 34, 35, 36, 37, 38, 39, 40, 41, 42, 43, 44, 45, 46, 47, 48, 49, 50, 51] a a4 := by rw [qa4]; exact k3.put (by decide) _
  have e4_9 := Ev.oth qa4 (by decide) e3_9
  have e4_11 := Ev.oth qa4 (by decide) e3_11
  have e4_2 := Ev.oth qa4 (by decide) e3_2
  have e4_35 := Ev.oth qa4 (by decide) e3_35
  have e4_36 := Ev.sam qa4 (by rw [k3.1, hsz]; decide)
  rw [← qa4]
  clear qa4 e3_9 e3_11 e3_2 e3_35
  refine pure_ (i := 4) (N := some 37) (v := .slice (some ⟨go, 0, none⟩) (t + 1) (t + 1)) #[true, true, true, true, true, false, false, false, false, false, false, false, false, false, false, false, false, false, false, false] (Rg.of hops (Rg.atS (Rg.atS (Rg.atS (Rg.atS Rg.at0))))) rfl (by kernel_rfl) (fun c _ _ h => hP c _ _ _ (by rfl) h) (Or.inl ⟨Ev.wanted rfl, fun w_ => ?_⟩) rfl ?_
  · unfold execOp
    generalize a4.eval = ev at *
    go_simp
  obtain ⟨a5, qa5⟩ : ∃ z_, z_ = a4.put (some 37) (.slice (some ⟨go, 0, none⟩) (t + 1) (t + 1)) := ⟨_, rfl⟩
  have k5 : Ev.Stay [33, 34, 35, 36, 37, 38, 39, 40, 41, 42, 43, 44, 45, 46, 47, 48, 49, 50, 51] a a5 := by rw [qa5]; exact k4.put (by decide) _
  have e5_9 := Ev.oth qa5 (by decide) e4_9
  have e5_11 := Ev.oth qa5 (by decide) e4_11
  have e5_2 := Ev.oth qa5 (by decide) e4_2
  have e5_35 := Ev.oth qa5 (by decide) e4_35
  have e5_36 := Ev.oth qa5 (by decide) e4_36
  have e5_37 := Ev.sam qa5 (by rw [k4.1, hsz]; decide)
  rw [← qa5]
  clear qa5 e4_9 e4_11 e4_2 e4_35 e4_36
  refine pure_ (i := 5) (N := some 38) (v := .pointer (some ⟨go, 0, none⟩)) #[true, true, true, true, true, true, false, false, false, false, false, false, false, false, false, false, false, false, false, false] (Rg.of hops (Rg.atS (Rg.atS (Rg.atS (Rg.atS (Rg.atS Rg.at0)))))) rfl (by kernel_rfl) (fun c _ _ h => hP c _ _ _ (by rfl) h) (Or.inl ⟨Ev.wanted rfl, fun w_ => ?_⟩) rfl ?_
  · have ec0 : a5.eval (.const (.int .i64 (0))) = .int .i64 (0) := rfl
    have lk_ : (0 : Int) < (t : Int) + 1 := by omega
    unfold execOp
    generalize a5.eval = ev at *
    go_simp
  obtain ⟨a6, qa6⟩ : ∃ z_, z_ = a5.put (some 38) (.pointer (some ⟨go, 0, none⟩)) := ⟨_, rfl⟩
  have k6 : Ev.Stay [33, 34, 35, 36, 37, 38, 39, 40, 41, 42, 43, 44, 45, 46, 47, 48, 49, 50, 51] a a6 := by rw [qa6]; exact k5.put (by decide) _
  have e6_9 := Ev.oth qa6 (by decide) e5_9
  have e6_11 := Ev.oth qa6 (by decide) e5_11
  have e6_2 := Ev.oth qa6 (by decide) e5_2
  have e6_35 := Ev.oth qa6 (by decide) e5_35
  have e6_36 := Ev.oth qa6 (by decide) e5_36
  have e6_37 := Ev.oth qa6 (by decide) e5_37
  have e6_38 := Ev.sam qa6 (by rw [k5.1, hsz]; decide)
  rw [← qa6]
  clear qa6 e5_9 e5_11 e5_2 e5_35 e5_36 e5_37
  clear e6_37
  refine take_ (i := 6) (N := some 39) (v := .slice (some ⟨gs (0), 0, none⟩) (t + 1) (t + 1)) #[true, true, true, true, true, true, true, false, false, false, false, false, false, false, false, false, false, false, false, false] (Rg.of hops (Rg.atS (Rg.atS (Rg.atS (Rg.atS (Rg.atS (Rg.atS Rg.at0))))))) rfl (by kernel_rfl) (fun c _ _ h => hP c _ _ _ (by rfl) h) (Ev.loadW (Ev.wanted rfl) rfl e6_38 (fun w hw => Ev.load56 (hw.row (by omega)))) hHeld rfl ?_
  obtain ⟨a7, qa7⟩ : ∃ z_, z_ = a6.put (some 39) (.slice (some ⟨gs (0), 0, none⟩) (t + 1) (t + 1)) := ⟨_, rfl⟩
  have k7 : Ev.Stay [33, 34, 35, 36, 37, 38, 39, 40, 41, 42, 43, 44, 45, 46, 47, 48, 49, 50, 51] a a7 := by rw [qa7]; exact k6.put (by decide) _
  have e7_9 := Ev.oth qa7 (by decide) e6_9
  have e7_11 := Ev.oth qa7 (by decide) e6_11
  have e7_2 := Ev.oth qa7 (by decide) e6_2
  have e7_35 := Ev.oth qa7 (by decide) e6_35
  have e7_36 := Ev.oth qa7 (by decide) e6_36
  have e7_38 := Ev.oth qa7 (by decide) e6_38
  have e7_39 := Ev.sam qa7 (by rw [k6.1, hsz]; decide)
  rw [← qa7]
  clear qa7 e6_9 e6_11 e6_2 e6_35 e6_36 e6_38
  clear e7_38
  refine pure_ (i := 7) (N := some 40) (v := .int .i64 ((k + 1 : Nat) : Int)) #[true, true, true, true, true, true, true, true, false, false, false, false, false, false, false, false, false, false, false, false] (Rg.of hops (Rg.atS (Rg.atS (Rg.atS (Rg.atS (Rg.atS (Rg.atS (Rg.atS Rg.at0)))))))) rfl (by kernel_rfl) (fun c _ _ h => hP c _ _ _ (by rfl) h) (Or.inl ⟨Ev.wanted rfl, fun w_ => ?_⟩) rfl ?_
  · unfold execOp
    generalize a7.eval = ev at *
    go_simp
  obtain ⟨a8, qa8⟩ : ∃ z_, z_ = a7.put (some 40) (.int .i64 ((k + 1 : Nat) : Int)) := ⟨_, rfl⟩
  have k8 : Ev.Stay [33, 34, 35, 36, 37, 38, 39, 40, 41, 42, 43, 44, 45, 46, 47, 48, 49, 50, 51] a a8 := by rw [qa8]; exact k7.put (by decide) _
  have e8_9 := Ev.oth qa8 (by decide) e7_9
  have e8_11 := Ev.oth qa8 (by decide) e7_11
  have e8_2 := Ev.oth qa8 (by decide) e7_2
  have e8_35 := Ev.oth qa8 (by decide) e7_35
  have e8_36 := Ev.oth qa8 (by decide) e7_36
  have e8_39 := Ev.oth qa8 (by decide) e7_39
  have e8_40 := Ev.sam qa8 (by rw [k7.1, hsz]; decide)
  rw [← qa8]
  clear qa8 e7_9 e7_11 e7_2 e7_35 e7_36 e7_39
  refine pure_ (i := 8) (N := some 41) (v := .int .i64 (k : Int)) #[true, true, true, true, true, true, true, true, true, false, false, false, false, false, false, false, false, false, false, false] (Rg.of hops (Rg.atS (Rg.atS (Rg.atS (Rg.atS (Rg.atS (Rg.atS (Rg.atS (Rg.atS Rg.at0))))))))) rfl (by kernel_rfl) (fun c _ _ h => hP c _ _ _ (by rfl) h) (Or.inl ⟨Ev.wanted rfl, fun w_ => ?_⟩) rfl ?_
  · have ec0 : a8.eval (.const (.int .i64 (1))) = .int .i64 (1) := rfl
    have d_ : (k : Int) + 1 - 1 = (k : Int) := by omega
    have d2_ : IntKind.i64.wrap (k : Int) = (k : Int) := wr (by omega) (by omega)
    unfold execOp
    generalize a8.eval = ev at *
    (go_simp; try (exact wr (by omega) (by omega)))
  obtain ⟨a9, qa9⟩ : ∃ z_, z_ = a8.put (some 41) (.int .i64 (k : Int)) := ⟨_, rfl⟩
  have k9 : Ev.Stay [33, 34, 35, 36, 37, 38, 39, 40, 41, 42, 43, 44, 45, 46, 47, 48, 49, 50, 51] a a9 := by rw [qa9]; exact k8.put (by decide) _
  have e9_9 := Ev.oth qa9 (by decide) e8_9
  have e9_11 := Ev.oth qa9 (by decide) e8_11
  have e9_2 := Ev.oth qa9 (by decide) e8_2
  have e9_35 := Ev.oth qa9 (by decide) e8_35
  have e9_36 := Ev.oth qa9 (by decide) e8_36
  have e9_39 := Ev.oth qa9 (by decide) e8_39
  have e9_40 := Ev.oth qa9 (by decide) e8_40
  have e9_41 := Ev.sam qa9 (by rw [k8.1, hsz]; decide)
  rw [← qa9]
  clear qa9 e8_9 e8_11 e8_2 e8_35 e8_36 e8_39 e8_40
  clear e9_40
  refine pure_ (i := 9) (N := some 42) (v := .pointer (some ⟨gs (0), k, none⟩)) #[true, true, true, true, true, true, true, true, true, true, false, false, false, false, false, false, false, false, false, false] (Rg.of hops (Rg.atS (Rg.atS (Rg.atS (Rg.atS (Rg.atS (Rg.atS (Rg.atS (Rg.atS (Rg.atS Rg.at0)))))))))) rfl (by kernel_rfl) (fun c _ _ h => hP c _ _ _ (by rfl) h) (Or.inl ⟨Ev.wanted rfl, fun w_ => ?_⟩) rfl ?_
  · have lk_ : (k : Int) < (t : Int) + 1 := by omega
    have lk0_ : (0 : Int) ≤ (k : Int) := by omega
    unfold execOp
    generalize a9.eval = ev at *
    go_simp
  obtain ⟨a10, qa10⟩ : ∃ z_, z_ = a9.put (some 42) (.pointer (some ⟨gs (0), k, none⟩)) := ⟨_, rfl⟩
  have k10 : Ev.Stay [33, 34, 35, 36, 37, 38, 39, 40, 41, 42, 43, 44, 45, 46, 47, 48, 49, 50, 51] a a10 := by rw [qa10]; exact k9.put (by decide) _
  have e10_9 := Ev.oth qa10 (by decide) e9_9
  have e10_11 := Ev.oth qa10 (by decide) e9_11
  have e10_2 := Ev.oth qa10 (by decide) e9_2
  have e10_35 := Ev.oth qa10 (by decide) e9_35
  have e10_36 := Ev.oth qa10 (by decide) e9_36
  have e10_39 := Ev.oth qa10 (by decide) e9_39
  have e10_41 := Ev.oth qa10 (by decide) e9_41
  have e10_42 := Ev.sam qa10 (by rw [k9.1, hsz]; decide)
  rw [← qa10]
  clear qa10 e9_9 e9_11 e9_2 e9_35 e9_36 e9_39 e9_41
  clear e10_39
  clear e10_41
  refine take_ (i := 10) (N := some 43) (v := .int .i64 (G (0) (k))) #[true, true, true, true, true, true, true, true, true, true, true, false, false, false, false, false, false, false, false, false] (Rg.of hops (Rg.atS (Rg.atS (Rg.atS (Rg.atS (Rg.atS (Rg.atS (Rg.atS (Rg.atS (Rg.atS (Rg.atS Rg.at0))))))))))) rfl (by kernel_rfl) (fun c _ _ h => hP c _ _ _ (by rfl) h) (Ev.loadW (Ev.wanted rfl) rfl e10_42 (fun w hw => Ev.load3 (hw.el (by omega) (by omega)))) hHeld rfl ?_
  obtain ⟨a11, qa11⟩ : ∃ z_, z_ = a10.put (some 43) (.int .i64 (G (0) (k))) := ⟨_, rfl⟩
  have k11 : Ev.Stay [33, 34, 35, 36, 37, 38, 39, 40, 41, 42, 43, 44, 45, 46, 47, 48, 49, 50, 51] a a11 := by rw [qa11]; exact k10.put (by decide) _
  have e11_9 := Ev.oth qa11 (by decide) e10_9
  have e11_11 := Ev.oth qa11 (by decide) e10_11
  have e11_2 := Ev.oth qa11 (by decide) e10_2
  have e11_35 := Ev.oth qa11 (by decide) e10_35
  have e11_36 := Ev.oth qa11 (by decide) e10_36
  have e11_42 := Ev.oth qa11 (by decide) e10_42
  have e11_43 := Ev.sam qa11 (by rw [k10.1, hsz]; decide)
  rw [← qa11]
  clear qa11 e10_9 e10_11 e10_2 e10_35 e10_36 e10_42
  clear e11_42
  refine pure_ (i := 11) (N := some 44) (v := .int .i64 (x)) #[true, true, true, true, true, true, true, true, true, true, true, true, false, false, false, false, false, false, false, false] (Rg.of hops (Rg.atS (Rg.atS (Rg.atS (Rg.atS (Rg.atS (Rg.atS (Rg.atS (Rg.atS (Rg.atS (Rg.atS (Rg.atS Rg.at0)))))))))))) rfl (by kernel_rfl) (fun c _ _ h => hP c _ _ _ (by rfl) h) (Or.inl ⟨Ev.wanted rfl, fun w_ => ?_⟩) rfl ?_
  · unfold execOp
    generalize a11.eval = ev at *
    go_simp
  obtain ⟨a12, qa12⟩ : ∃ z_, z_ = a11.put (some 44) (.int .i64 (x)) := ⟨_, rfl⟩
  have k12 : Ev.Stay [33, 34, 35, 36, 37, 38, 39, 40, 41, 42, 43, 44, 45, 46, 47, 48, 49, 50, 51] a a12 := by rw [qa12]; exact k11.put (by decide) _
  have e12_9 := Ev.oth qa12 (by decide) e11_9
  have e12_11 := Ev.oth qa12 (by decide) e11_11
  have e12_2 := Ev.oth qa12 (by decide) e11_2
  have e12_35 := Ev.oth qa12 (by decide) e11_35
  have e12_36 := Ev.oth qa12 (by decide) e11_36
  have e12_43 := Ev.oth qa12 (by decide) e11_43
  have e12_44 := Ev.sam qa12 (by rw [k11.1, hsz]; decide)
  rw [← qa12]
  clear qa12 e11_9 e11_11 e11_2 e11_35 e11_36 e11_43
  refine pure_ (i := 12) (N := some 45) (v := .int .i64 ((k + 1 : Nat) : Int)) #[true, true, true, true, true, true, true, true, true, true, true, true, true, false, false, false, false, false, false, false] (Rg.of hops (Rg.atS (Rg.atS (Rg.atS (Rg.atS (Rg.atS (Rg.atS (Rg.atS (Rg.atS (Rg.atS (Rg.atS (Rg.atS (Rg.atS Rg.at0))))))))))))) rfl (by kernel_rfl) (fun c _ _ h => hP c _ _ _ (by rfl) h) (Or.inl ⟨Ev.wanted rfl, fun w_ => ?_⟩) rfl ?_
  · unfold execOp
    generalize a12.eval = ev at *
    go_simp
  obtain ⟨a13, qa13⟩ : ∃ z_, z_ = a12.put (some 45) (.int .i64 ((k + 1 : Nat) : Int)) := ⟨_, rfl⟩
  have k13 : Ev.Stay [33, 34, 35, 36, 37, 38, 39, 40, 41, 42, 43, 44, 45, 46, 47, 48, 49, 50, 51] a a13 := by rw [qa13]; exact k12.put (by decide) _
  have e13_9 := Ev.oth qa13 (by decide) e12_9
  have e13_11 := Ev.oth qa13 (by decide) e12_11
  have e13_2 := Ev.oth qa13 (by decide) e12_2
  have e13_35 := Ev.oth qa13 (by decide) e12_35
  have e13_36 := Ev.oth qa13 (by decide) e12_36
  have e13_43 := Ev.oth qa13 (by decide) e12_43
  have e13_44 := Ev.oth qa13 (by decide) e12_44
  have e13_45 := Ev.sam qa13 (by rw [k12.1, hsz]; decide)
  rw [← qa13]
  clear qa13 e12_9 e12_11 e12_2 e12_35 e12_36 e12_43 e12_44
  refine pure_ (i := 13) (N := some 46) (v := .int .i64 (k : Int)) #[true, true, true, true, true, true, true, true, true, true, true, true, true, true, false, false, false, false, false, false] (Rg.of hops (Rg.atS (Rg.atS (Rg.atS (Rg.atS (Rg.atS (Rg.atS (Rg.atS (Rg.atS (Rg.atS (Rg.atS (Rg.atS (Rg.atS (Rg.atS Rg.at0)))))))))))))) rfl (by kernel_rfl) (fun c _ _ h => hP c _ _ _ (by rfl) h) (Or.inl ⟨Ev.wanted rfl, fun w_ => ?_⟩) rfl ?_
  · have ec0 : a13.eval (.const (.int .i64 (1))) = .int .i64 (1) := rfl
    have d_ : (k : Int) + 1 - 1 = (k : Int) := by omega
    have d2_ : IntKind.i64.wrap (k : Int) = (k : Int) := wr (by omega) (by omega)
    unfold execOp
    generalize a13.eval = ev at *
    (go_simp; try (exact wr (by omega) (by omega)))
  obtain ⟨a14, qa14⟩ : ∃ z_, z_ = a13.put (some 46) (.int .i64 (k : Int)) := ⟨_, rfl⟩
  have k14 : Ev.Stay [33, 34, 35, 36, 37, 38, 39, 40, 41, 42, 43, 44, 45, 46, 47, 48, 49, 50, 51] a a14 := by rw [qa14]; exact k13.put (by decide) _
  have e14_9 := Ev.oth qa14 (by decide) e13_9
  have e14_11 := Ev.oth qa14 (by decide) e13_11
  have e14_2 := Ev.oth qa14 (by decide) e13_2
  have e14_35 := Ev.oth qa14 (by decide) e13_35
  have e14_36 := Ev.oth qa14 (by decide) e13_36
  have e14_43 := Ev.oth qa14 (by decide) e13_43
  have e14_44 := Ev.oth qa14 (by decide) e13_44
  have e14_45 := Ev.oth qa14 (by decide) e13_45
  have e14_46 := Ev.sam qa14 (by rw [k13.1, hsz]; decide)
  rw [← qa14]
  clear qa14 e13_9 e13_11 e13_2 e13_35 e13_36 e13_43 e13_44 e13_45
  clear e14_45
  refine pure_ (i := 14) (N := some 47) (v := .int .u64 (k : Int)) #[true, true, true, true, true, true, true, true, true, true, true, true, true, true, true, false, false, false, false, false] (Rg.of hops (Rg.atS (Rg.atS (Rg.atS (Rg.atS (Rg.atS (Rg.atS (Rg.atS (Rg.atS (Rg.atS (Rg.atS (Rg.atS (Rg.atS (Rg.atS (Rg.atS Rg.at0))))))))))))))) rfl (by kernel_rfl) (fun c _ _ h => hP c _ _ _ (by rfl) h) (Or.inl ⟨Ev.wanted rfl, fun w_ => ?_⟩) rfl ?_
  · have u_ : IntKind.u64.wrap (k : Int) = (k : Int) := wu (by omega) (by omega)
    unfold execOp
    generalize a14.eval = ev at *
    go_simp
  obtain ⟨a15, qa15⟩ : ∃ z_, z_ = a14.put (some 47) (.int .u64 (k : Int)) := ⟨_, rfl⟩
  have k15 : Ev.Stay [33, 34, 35, 36, 37, 38, 39, 40, 41, 42, 43, 44, 45, 46, 47, 48, 49, 50, 51] a a15 := by rw [qa15]; exact k14.put (by decide) _
  have e15_9 := Ev.oth qa15 (by decide) e14_9
  have e15_11 := Ev.oth qa15 (by decide) e14_11
  have e15_2 := Ev.oth qa15 (by decide) e14_2
  have e15_35 := Ev.oth qa15 (by decide) e14_35
  have e15_36 := Ev.oth qa15 (by decide) e14_36
  have e15_43 := Ev.oth qa15 (by decide) e14_43
  have e15_44 := Ev.oth qa15 (by decide) e14_44
  have e15_46 := Ev.oth qa15 (by decide) e14_46
  have e15_47 := Ev.sam qa15 (by rw [k14.1, hsz]; decide)
  rw [← qa15]
  clear qa15 e14_9 e14_11 e14_2 e14_35 e14_36 e14_43 e14_44 e14_46
  clear e15_46
  refine pure_ (i := 15) (N := some 48) (v := .int .i64 (x / 2 ^ k)) #[true, true, true, true, true, true, true, true, true, true, true, true, true, true, true, true, false, false, false, false] (Rg.of hops (Rg.atS (Rg.atS (Rg.atS (Rg.atS (Rg.atS (Rg.atS (Rg.atS (Rg.atS (Rg.atS (Rg.atS (Rg.atS (Rg.atS (Rg.atS (Rg.atS (Rg.atS Rg.at0)))))))))))))))) rfl (by kernel_rfl) (fun c _ _ h => hP c _ _ _ (by rfl) h) (Or.inl ⟨Ev.wanted rfl, fun w_ => ?_⟩) rfl ?_
  · have l0_ : (0 : Int) ≤ (k : Int) := by omega
    have mn_ : min k 64 = k := by omega
    unfold execOp
    generalize a15.eval = ev at *
    go_simp
  obtain ⟨a16, qa16⟩ : ∃ z_, z_ = a15.put (some 48) (.int .i64 (x / 2 ^ k)) := ⟨_, rfl⟩
  have k16 : Ev.Stay [33, 34, 35, 36, 37, 38, 39, 40, 41, 42, 43, 44, 45, 46, 47, 48, 49, 50, 51] a a16 := by rw [qa16]; exact k15.put (by decide) _
  have e16_9 := Ev.oth qa16 (by decide) e15_9
  have e16_11 := Ev.oth qa16 (by decide) e15_11
  have e16_2 := Ev.oth qa16 (by decide) e15_2
  have e16_35 := Ev.oth qa16 (by decide) e15_35
  have e16_36 := Ev.oth qa16 (by decide) e15_36
  have e16_43 := Ev.oth qa16 (by decide) e15_43
  have e16_44 := Ev.oth qa16 (by decide) e15_44
  have e16_47 := Ev.oth qa16 (by decide) e15_47
  have e16_48 := Ev.sam qa16 (by rw [k15.1, hsz]; decide)
  rw [← qa16]
  clear qa16 e15_9 e15_11 e15_2 e15_35 e15_36 e15_43 e15_44 e15_47
  clear e16_44
  clear e16_47
  refine pure_ (i := 16) (N := some 49) (v := .int .i64 (bt)) #[true, true, true, true, true, true, true, true, true, true, true, true, true, true, true, true, true, false, false, false] (Rg.of hops (Rg.atS (Rg.atS (Rg.atS (Rg.atS (Rg.atS (Rg.atS (Rg.atS (Rg.atS (Rg.atS (Rg.atS (Rg.atS (Rg.atS (Rg.atS (Rg.atS (Rg.atS (Rg.atS Rg.at0))))))))))))))))) rfl (by kernel_rfl) (fun c _ _ h => hP c _ _ _ (by rfl) h) (Or.inl ⟨Ev.wanted rfl, fun w_ => ?_⟩) rfl ?_
  · have ec0 : a16.eval (.const (.int .i64 (1))) = .int .i64 (1) := rfl
    have hb_ := hb
    unfold execOp
    generalize a16.eval = ev at *
    go_simp
  obtain ⟨a17, qa17⟩ : ∃ z_, z_ = a16.put (some 49) (.int .i64 (bt)) := ⟨_, rfl⟩
  have k17 : Ev.Stay [33, 34, 35, 36, 37, 38, 39, 40, 41, 42, 43, 44, 45, 46, 47, 48, 49, 50, 51] a a17 := by rw [qa17]; exact k16.put (by decide) _
  have e17_9 := Ev.oth qa17 (by decide) e16_9
  have e17_11 := Ev.oth qa17 (by decide) e16_11
  have e17_2 := Ev.oth qa17 (by decide) e16_2
  have e17_35 := Ev.oth qa17 (by decide) e16_35
  have e17_36 := Ev.oth qa17 (by decide) e16_36
  have e17_43 := Ev.oth qa17 (by decide) e16_43
  have e17_48 := Ev.oth qa17 (by decide) e16_48
  have e17_49 := Ev.sam qa17 (by rw [k16.1, hsz]; decide)
  rw [← qa17]
  clear qa17 e16_9 e16_11 e16_2 e16_35 e16_36 e16_43 e16_48
  clear e17_48
  refine pure_ (i := 17) (N := some 50) (v := .int .i64 (G 0 k + bt)) #[true, true, true, true, true, true, true, true, true, true, true, true, true, true, true, true, true, true, false, false] (Rg.of hops (Rg.atS (Rg.atS (Rg.atS (Rg.atS (Rg.atS (Rg.atS (Rg.atS (Rg.atS (Rg.atS (Rg.atS (Rg.atS (Rg.atS (Rg.atS (Rg.atS (Rg.atS (Rg.atS (Rg.atS Rg.at0)))))))))))))))))) rfl (by kernel_rfl) (fun c _ _ h => hP c _ _ _ (by rfl) h) (Or.inl ⟨Ev.wanted rfl, fun w_ => ?_⟩) rfl ?_
  · have g1 := hg.1
    have g2 := hg.2
    have b1 := hbt.1
    have b2 := hbt.2
    unfold execOp
    generalize a17.eval = ev at *
    (go_simp; exact wr (by omega) (by omega))
  obtain ⟨a18, qa18⟩ : ∃ z_, z_ = a17.put (some 50) (.int .i64 (G 0 k + bt)) := ⟨_, rfl⟩
  have k18 : Ev.Stay [33, 34, 35, 36, 37, 38, 39, 40, 41, 42, 43, 44, 45, 46, 47, 48, 49, 50, 51] a a18 := by rw [qa18]; exact k17.put (by decide) _
  have e18_9 := Ev.oth qa18 (by decide) e17_9
  have e18_11 := Ev.oth qa18 (by decide) e17_11
  have e18_2 := Ev.oth qa18 (by decide) e17_2
  have e18_35 := Ev.oth qa18 (by decide) e17_35
  have e18_36 := Ev.oth qa18 (by decide) e17_36
  have e18_43 := Ev.oth qa18 (by decide) e17_43
  have e18_49 := Ev.oth qa18 (by decide) e17_49
  have e18_50 := Ev.sam qa18 (by rw [k17.1, hsz]; decide)
  rw [← qa18]
  clear qa18 e17_9 e17_11 e17_2 e17_35 e17_36 e17_43 e17_49
  clear e18_43
  clear e18_49
  refine pure_ (i := 18) (N := some 51) (v := .pointer (some ⟨gs (0), k + 1, none⟩)) #[true, true, true, true, true, true, true, true, true, true, true, true, true, true, true, true, true, true, true, false] (Rg.of hops (Rg.atS (Rg.atS (Rg.atS (Rg.atS (Rg.atS (Rg.atS (Rg.atS (Rg.atS (Rg.atS (Rg.atS (Rg.atS (Rg.atS (Rg.atS (Rg.atS (Rg.atS (Rg.atS (Rg.atS (Rg.atS Rg.at0))))))))))))))))))) rfl (by kernel_rfl) (fun c _ _ h => hP c _ _ _ (by rfl) h) (Or.inl ⟨Ev.wanted rfl, fun w_ => ?_⟩) rfl ?_
  · have lk_ : (k : Int) + 1 < (t : Int) + 1 := by omega
    have lk0_ : (0 : Int) ≤ (k : Int) + 1 := by omega
    have lk2_ : (k : Int) < (t : Int) := by omega
    unfold execOp
    generalize a18.eval = ev at *
    go_simp
  obtain ⟨a19, qa19⟩ : ∃ z_, z_ = a18.put (some 51) (.pointer (some ⟨gs (0), k + 1, none⟩)) := ⟨_, rfl⟩
  have k19 : Ev.Stay [33, 34, 35, 36, 37, 38, 39, 40, 41, 42, 43, 44, 45, 46, 47, 48, 49, 50, 51] a a19 := by rw [qa19]; exact k18.put (by decide) _
  have e19_9 := Ev.oth qa19 (by decide) e18_9
  have e19_11 := Ev.oth qa19 (by decide) e18_11
  have e19_2 := Ev.oth qa19 (by decide) e18_2
  have e19_35 := Ev.oth qa19 (by decide) e18_35
  have e19_36 := Ev.oth qa19 (by decide) e18_36
  have e19_50 := Ev.oth qa19 (by decide) e18_50
  have e19_51 := Ev.sam qa19 (by rw [k18.1, hsz]; decide)
  rw [← qa19]
  clear qa19 e18_9 e18_11 e18_2 e18_35 e18_36 e18_50
  clear e19_35
  clear e19_36
  refine last_ (i := 19) (N := none) #[true, true, true, true, true, true, true, true, true, true, true, true, true, true, true, true, true, true, true, true] (Rg.of hops (Rg.atS (Rg.atS (Rg.atS (Rg.atS (Rg.atS (Rg.atS (Rg.atS (Rg.atS (Rg.atS (Rg.atS (Rg.atS (Rg.atS (Rg.atS (Rg.atS (Rg.atS (Rg.atS (Rg.atS (Rg.atS (Rg.atS Rg.at0)))))))))))))))))))) rfl (by kernel_rfl) (by decide) (fun K hK => ?_)
  rw [if_pos (Ev.wanted rfl)]
  refine Ev.store rfl rfl e19_51 e19_50 (Ev.store3 (hHeld.el (by omega) (by omega)) (hHeld.fr (by omega))) ?_
  refine hK.out _ _ ?_
  refine done_ (by kernel_rfl) ?_
  exact hQ _ k19
set_option maxHeartbeats 2000000 in
theorem Rg.u10 {id : Nat} {Q : Exit → Act → World → Prop} {a : Act} {W : World} {go t k : Nat} {gs : Nat → Nat} {x bt : Int} {G : Nat → Nat → Int}
    (hsz : a.tmps.size = 133) (hP : ∀ c a a' w, a'.defers = a.defers → Q (.panic c) a w → Q (.panic c) a' w)  (h9 : a.eval (.tmp 9) = .slice (some ⟨go, 0, none⟩) (t + 1) (t + 1)) (h11 : a.eval (.tmp 11) = .int .i64 ((k + 1 : Nat) : Int)) (h3 : a.eval (.tmp 3) = .int .i64 (x)) (hG : Mx W.drew go (t + 1) gs G) (ht : t ≤ 3) (hk : k < t) (hb : bits .and .i64 (x / 2 ^ k) 1 = bt) (hbt : 0 ≤ bt ∧ bt ≤ 1) (hg : 0 ≤ G k 0 ∧ G k 0 ≤ 100)
    (hQ : ∀ a', Ev.Stay [52, 53, 54, 55, 56, 57, 58, 59, 60, 61, 62, 63, 64, 65, 66, 67, 68, 69, 70] a a' → Q .normal a' (W.drew.setCell ⟨gs (k + 1), 0, none⟩ (.int .i64 (G k 0 + bt)))) : (Code.region id (Rf.ops 19 10) true).wp Try.prog Q a W := by
  have hops : Rf.ops 19 10 = List.toArray [_, _, _, _, _, _, _, _, _, _, _, _, _, _, _, _, _, _, _, _] := rfl
  refine start_ (S := fun w_ => Mx w_ go (t + 1) gs G) (ds := [19]) #[false, false, false, false, false, false, false, false, false, false, false, false, false, false, false, false, false, false, false, false] (by kernel_rfl) (n := 20) rfl rfl ?S0 (fun hHeld => ?_)
  case S0 => exact hG
  have k0 : Ev.Stay [52, 53, 54, 55, 56, 57, 58, 59, 60, 61, 62, 63, 64, 65, 66, 67, 68, 69, 70] a a := Ev.Stay.refl [52, 53, 54, 55, 56, 57, 58, 59, 60, 61, 62, 63, 64, 65, 66, 67, 68, 69, 70] a
  refine pure_ (i := 0) (N := some 52) (v := .slice (some ⟨go, 0, none⟩) (t + 1) (t + 1)) #[true, false, false, false, false, false, false, false, false, false, false, false, false, false, false, false, false, false, false, false] (Rg.of hops Rg.at0) rfl (by kernel_rfl) (fun c _ _ h => hP c _ _ _ (by rfl) h) (Or.inl ⟨Ev.wanted rfl, fun w_ => ?_⟩) rfl ?_
  · unfold execOp
    generalize a.eval = ev at *
    go_simp
  obtain ⟨a1, qa1⟩ : ∃ z_, z_ = a.put (some 52) (.slice (some ⟨go, 0, none⟩) (t + 1) (t + 1)) := ⟨_, rfl⟩
  have k1 : Ev.Stay [52, 53, 54, 55, 56, 57, 58, 59, 60, 61, 62, 63, 64, 65, 66, 67, 68, 69, 70] a a1 := by rw [qa1]; exact k0.put (by decide) _
  have e1_9 := Ev.oth qa1 (by decide) h9
  have e1_11 := Ev.oth qa1 (by decide) h11
  have e1_3 := Ev.oth qa1 (by decide) h3
  have e1_52 := Ev.sam qa1 (by rw [k0.1, hsz]; decide)
  rw [← qa1]
  clear qa1 
  refine pure_ (i := 1) (N := some 53) (v := .int .i64 ((k + 1 : Nat) : Int)) #[true, true, false, false, false, false, false, false, false, false, false, false, false, false, false, false, false, false, false, false] (Rg.of hops (Rg.atS Rg.at0)) rfl (by kernel_rfl) (fun c _ _ h => hP c _ _ _ (by rfl) h) (Or.inl ⟨Ev.wanted rfl, fun w_ => ?_⟩) rfl ?_
  · unfold execOp
    generalize a1.eval = ev at *
    go_simp
  obtain ⟨a2, qa2⟩ : ∃ z_, z_ = a1.put (some 53) (.int .i64 ((k + 1 : Nat) : Int)) := ⟨_, rfl⟩
  have k2 : Ev.Stay [52, 53, 54, 55, 56, 57, 58, 59, 60, 61, 62, 63, 64, 65, 66, 67, 68, 69, 70] a a2 := by rw [qa2]; exact k1.put (by decide) _
  have e2_9 := Ev.oth qa2 (by decide) e1_9
  have e2_11 := Ev.oth qa2 (by decide) e1_11
  have e2_3 := Ev.oth qa2 (by decide) e1_3
  have e2_52 := Ev.oth qa2 (by decide) e1_52
  have e2_53 := Ev.sam qa2 (by rw [k1.1, hsz]; decide)
  rw [← qa2]
  clear qa2 e1_9 e1_11 e1_3 e1_52
  refine pure_ (i := 2) (N := some 54) (v := .pointer (some ⟨go, k + 1, none⟩)) #[true, true, true, false, false, false, false, false, false, false, false, false, false, false, false, false, false, false, false, false] (Rg.of hops (Rg.atS (Rg.atS Rg.at0))) rfl (by kernel_rfl) (fun c _ _ h => hP c _ _ _ (by rfl) h) (Or.inl ⟨Ev.wanted rfl, fun w_ => ?_⟩) rfl ?_
  · have lk_ : (k : Int) + 1 < (t : Int) + 1 := by omega
    have lk0_ : (0 : Int) ≤ (k : Int) + 1 := by omega
    have lk2_ : (k : Int) < (t : Int) := by omega
    unfold execOp
    generalize a2.eval = ev at *
    go_simp
  obtain ⟨a3, qa3⟩ : ∃ z_, z_ = a2.put (some 54) (.pointer (some ⟨go, k + 1, none⟩)) := ⟨_, rfl⟩
  have k3 : Ev.Stay [52, 53, 54, 55, 56, 57, 58, 59, 60, 61, 62, 63, 64, 65, 66, 67, 68, 69, 70] a a3 := by rw [qa3]; exact k2.put (by decide) _
  have e3_9 := Ev.oth qa3 (by decide) e2_9
  have e3_11 := Ev.oth qa3 (by decide) e2_11
  have e3_3 := Ev.oth qa3 (by decide) e2_3
  have e3_52 := Ev.oth qa3 (by decide) e2_52
  have e3_53 := Ev.oth qa3 (by decide) e2_53
  have e3_54 := Ev.sam qa3 (by rw [k2.1, hsz]; decide)
  rw [← qa3]
  clear qa3 e2_9 e2_11 e2_3 e2_52 e2_53
  clear e3_52
  clear e3_53
  refine take_ (i := 3) (N := some 55) (v := .slice (some ⟨gs (k + 1), 0, none⟩) (t + 1) (t + 1)) #[true, true, true, true, false, false, false, false, false, false, false, false, false, false, false, false, false, false, false, false] (Rg.of hops (Rg.atS (Rg.atS (Rg.atS Rg.at0)))) rfl (by kernel_rfl) (fun c _ _ h => hP c _ _ _ (by rfl) h) (Ev.loadW (Ev.wanted rfl) rfl e3_54 (fun w hw => Ev.load56 (hw.row (by omega)))) hHeld rfl ?_
  obtain ⟨a4, qa4⟩ : ∃ z_, z_ = a3.put (some 55) (.slice (some ⟨gs (k + 1), 0, none⟩) (t + 1) (t + 1)) := ⟨_, rfl⟩
  have k4 : Ev.Stay [52, 53, 54, 55, 56, 57, 58, 59, 60, 61, 62, 63, 64, 65, 66, 67, 68, 69, 70] a a4 := by rw [qa4]; exact k3.put (by decide) _
  have e4_9 := Ev.oth qa4 (by decide) e3_9
  have e4_11 := Ev.oth qa4 (by decide) e3_11
  have e4_3 := Ev.oth qa4 (by decide) e3_3
  have e4_54 := Ev.oth qa4 (by decide) e3_54
  have e4_55 := Ev.sam qa4 (by rw [k3.1, hsz]; decide)
  rw [← qa4]
  clear qa4 e3_9 e3_11 e3_3 e3_54
  clear e4_54
  refine pure_ (i := 4) (N := some 56) (v := .slice (some ⟨go, 0, none⟩) (t + 1) (t + 1)) #[true, true, true, true, true, false, false, false, false, false, false, false, false, false, false, false, false, false, false, false] (Rg.of hops (Rg.atS (Rg.atS (Rg.atS (Rg.atS Rg.at0))))) rfl (by kernel_rfl) (fun c _ _ h => hP c _ _ _ (by rfl) h) (Or.inl ⟨Ev.wanted rfl, fun w_ => ?_⟩) rfl ?_
  · unfold execOp
    generalize a4.eval = ev at *
    go_simp
  obtain ⟨a5, qa5⟩ : ∃ z_, z_ = a4.put (some 56) (.slice (some ⟨go, 0, none⟩) (t + 1) (t + 1)) := ⟨_, rfl⟩
  have k5 : Ev.Stay [52, 53, 54, 55, 56, 57, 58, 59, 60, 61, 62, 63, 64, 65, 66, 67, 68, 69, 70] a a5 := by rw [qa5]; exact k4.put (by decide) _
  have e5_9 := Ev.oth qa5 (by decide) e4_9
  have e5_11 := Ev.oth qa5 (by decide) e4_11
  have e5_3 := Ev.oth qa5 (by decide) e4_3
  have e5_55 := Ev.oth qa5 (by decide) e4_55
  have e5_56 := Ev.sam qa5 (by rw [k4.1, hsz]; decide)
  rw [← qa5]
  clear qa5 e4_9 e4_11 e4_3 e4_55
  refine pure_ (i := 5) (N := some 57) (v := .int .i64 ((k + 1 : Nat) : Int)) #[true, true, true, true, true, true, false, false, false, false, false, false, false, false, false, false, false, false, false, false] (Rg.of hops (Rg.atS (Rg.atS (Rg.atS (Rg.atS (Rg.atS Rg.at0)))))) rfl (by kernel_rfl) (fun c _ _ h => hP c _ _ _ (by rfl) h) (Or.inl ⟨Ev.wanted rfl, fun w_ => ?_⟩) rfl ?_
  · unfold execOp
    generalize a5.eval = ev at *
    go_simp
  obtain ⟨a6, qa6⟩ : ∃ z_, z_ = a5.put (some 57) (.int .i64 ((k + 1 : Nat) : Int)) := ⟨_, rfl⟩
  have k6 : Ev.Stay [52, 53, 54, 55, 56, 57, 58, 59, 60, 61, 62, 63, 64, 65, 66, 67, 68, 69, 70] a a6 := by rw [qa6]; exact k5.put (by decide) _
  have e6_9 := Ev.oth qa6 (by decide) e5_9
  have e6_11 := Ev.oth qa6 (by decide) e5_11
  have e6_3 := Ev.oth qa6 (by decide) e5_3
  have e6_55 := Ev.oth qa6 (by decide) e5_55
  have e6_56 := Ev.oth qa6 (by decide) e5_56
  have e6_57 := Ev.sam qa6 (by rw [k5.1, hsz]; decide)
  rw [← qa6]
  clear qa6 e5_9 e5_11 e5_3 e5_55 e5_56
  refine pure_ (i := 6) (N := some 58) (v := .int .i64 (k : Int)) #[true, true, true, true, true, true, true, false, false, false, false, false, false, false, false, false, false, false, false, false] (Rg.of hops (Rg.atS (Rg.atS (Rg.atS (Rg.atS (Rg.atS (Rg.atS Rg.at0))))))) rfl (by kernel_rfl) (fun c _ _ h => hP c _ _ _ (by rfl) h) (Or.inl ⟨Ev.wanted rfl, fun w_ => ?_⟩) rfl ?_
  · have ec0 : a6.eval (.const (.int .i64 (1))) = .int .i64 (1) := rfl
    have d_ : (k : Int) + 1 - 1 = (k : Int) := by omega
    have d2_ : IntKind.i64.wrap (k : Int) = (k : Int) := wr (by omega) (by omega)
    unfold execOp
    generalize a6.eval = ev at *
    (go_simp; try (exact wr (by omega) (by omega)))
  obtain ⟨a7, qa7⟩ : ∃ z_, z_ = a6.put (some 58) (.int .i64 (k : Int)) := ⟨_, rfl⟩
  have k7 : Ev.Stay [52, 53, 54, 55, 56, 57, 58, 59, 60, 61, 62, 63, 64, 65, 66, 67, 68, 69, 70] a a7 := by rw [qa7]; exact k6.put (by decide) _
  have e7_9 := Ev.oth qa7 (by decide) e6_9
  have e7_11 := Ev.oth qa7 (by decide) e6_11
  have e7_3 := Ev.oth qa7 (by decide) e6_3
  have e7_55 := Ev.oth qa7 (by decide) e6_55
  have e7_56 := Ev.oth qa7 (by decide) e6_56
  have e7_57 := Ev.oth qa7 (by decide) e6_57
  have e7_58 := Ev.sam qa7 (by rw [k6.1, hsz]; decide)
  rw [← qa7]
  clear qa7 e6_9 e6_11 e6_3 e6_55 e6_56 e6_57
  clear e7_57
  refine pure_ (i := 7) (N := some 59) (v := .pointer (some ⟨go, k, none⟩)) #[true, true, true, true, true, true, true, true, false, false, false, false, false, false, false, false, false, false, false, false] (Rg.of hops (Rg.atS (Rg.atS (Rg.atS (Rg.atS (Rg.atS (Rg.atS (Rg.atS Rg.at0)))))))) rfl (by kernel_rfl) (fun c _ _ h => hP c _ _ _ (by rfl) h) (Or.inl ⟨Ev.wanted rfl, fun w_ => ?_⟩) rfl ?_
  · have lk_ : (k : Int) < (t : Int) + 1 := by omega
    have lk0_ : (0 : Int) ≤ (k : Int) := by omega
    unfold execOp
    generalize a7.eval = ev at *
    go_simp
  obtain ⟨a8, qa8⟩ : ∃ z_, z_ = a7.put (some 59) (.pointer (some ⟨go, k, none⟩)) := ⟨_, rfl⟩
  have k8 : Ev.Stay [52, 53, 54, 55, 56, 57, 58, 59, 60, 61, 62, 63, 64, 65, 66, 67, 68, 69, 70] a a8 := by rw [qa8]; exact k7.put (by decide) _
  have e8_9 := Ev.oth qa8 (by decide) e7_9
  have e8_11 := Ev.oth qa8 (by decide) e7_11
  have e8_3 := Ev.oth qa8 (by decide) e7_3
  have e8_55 := Ev.oth qa8 (by decide) e7_55
  have e8_56 := Ev.oth qa8 (by decide) e7_56
  have e8_58 := Ev.oth qa8 (by decide) e7_58
  have e8_59 := Ev.sam qa8 (by rw [k7.1, hsz]; decide)
  rw [← qa8]
  clear qa8 e7_9 e7_11 e7_3 e7_55 e7_56 e7_58
  clear e8_56
  clear e8_58
  refine take_ (i := 8) (N := some 60) (v := .slice (some ⟨gs (k), 0, none⟩) (t + 1) (t + 1)) #[true, true, true, true, true, true, true, true, true, false, false, false, false, false, false, false, false, false, false, false] (Rg.of hops (Rg.atS (Rg.atS (Rg.atS (Rg.atS (Rg.atS (Rg.atS (Rg.atS (Rg.atS Rg.at0))))))))) rfl (by kernel_rfl) (fun c _ _ h => hP c _ _ _ (by rfl) h) (Ev.loadW (Ev.wanted rfl) rfl e8_59 (fun w hw => Ev.load56 (hw.row (by omega)))) hHeld rfl ?_
  obtain ⟨a9, qa9⟩ : ∃ z_, z_ = a8.put (some 60) (.slice (some ⟨gs (k), 0, none⟩) (t + 1) (t + 1)) := ⟨_, rfl⟩
  have k9 : Ev.Stay [52, 53, 54, 55, 56, 57, 58, 59, 60, 61, 62, 63, 64, 65, 66, 67, 68, 69, 70] a a9 := by rw [qa9]; exact k8.put (by decide) _
  have e9_9 := Ev.oth qa9 (by decide) e8_9
  have e9_11 := Ev.oth qa9 (by decide) e8_11
  have e9_3 := Ev.oth qa9 (by decide) e8_3
  have e9_55 := Ev.oth qa9 (by decide) e8_55
  have e9_59 := Ev.oth qa9 (by decide) e8_59
  have e9_60 := Ev.sam qa9 (by rw [k8.1, hsz]; decide)
  rw [← qa9]
  clear qa9 e8_9 e8_11 e8_3 e8_55 e8_59
  clear e9_59
  refine pure_ (i := 9) (N := some 61) (v := .pointer (some ⟨gs (k), 0, none⟩)) #[true, true, true, true, true, true, true, true, true, true, false, false, false, false, false, false, false, false, false, false] (Rg.of hops (Rg.atS (Rg.atS (Rg.atS (Rg.atS (Rg.atS (Rg.atS (Rg.atS (Rg.atS (Rg.atS Rg.at0)))))))))) rfl (by kernel_rfl) (fun c _ _ h => hP c _ _ _ (by rfl) h) (Or.inl ⟨Ev.wanted rfl, fun w_ => ?_⟩) rfl ?_
  · have ec0 : a9.eval (.const (.int .i64 (0))) = .int .i64 (0) := rfl
    have lk_ : (0 : Int) < (t : Int) + 1 := by omega
    unfold execOp
    generalize a9.eval = ev at *
    go_simp
  obtain ⟨a10, qa10⟩ : ∃ z_, z_ = a9.put (some 61) (.pointer (some ⟨gs (k), 0, none⟩)) := ⟨_, rfl⟩
  have k10 : Ev.Stay [52, 53, 54, 55, 56, 57, 58, 59, 60, 61, 62, 63, 64, 65, 66, 67, 68, 69, 70] a a10 := by rw [qa10]; exact k9.put (by decide) _
  have e10_9 := Ev.oth qa10 (by decide) e9_9
  have e10_11 := Ev.oth qa10 (by decide) e9_11
  have e10_3 := Ev.oth qa10 (by decide) e9_3
  have e10_55 := Ev.oth qa10 (by decide) e9_55
  have e10_60 := Ev.oth qa10 (by decide) e9_60
  have e10_61 := Ev.sam qa10 (by rw [k9.1, hsz]; decide)
  rw [← qa10]
  clear qa10 e9_9 e9_11 e9_3 e9_55 e9_60
  clear e10_60
  refine take_ (i := 10) (N := some 62) (v := .int .i64 (G (k) (0))) #[true, true, true, true, true, true, true, true, true, true, true, false, false, false, false, false, false, false, false, false] (Rg.of hops (Rg.atS (Rg.atS (Rg.atS (Rg.atS (Rg.atS (Rg.atS (Rg.atS (Rg.atS (Rg.atS (Rg.atS Rg.at0))))))))))) rfl (by kernel_rfl) (fun c _ _ h => hP c _ _ _ (by rfl) h) (Ev.loadW (Ev.wanted rfl) rfl e10_61 (fun w hw => Ev.load3 (hw.el (by omega) (by omega)))) hHeld rfl ?_
  obtain ⟨a11, qa11⟩ : ∃ z_, z_ = a10.put (some 62) (.int .i64 (G (k) (0))) := ⟨_, rfl⟩
  have k11 : Ev.Stay [52, 53, 54, 55, 56, 57, 58, 59, 60, 61, 62, 63, 64, 65, 66, 67, 68, 69, 70] a a11 := by rw [qa11]; exact k10.put (by decide) _
  have e11_9 := Ev.oth qa11 (by decide) e10_9
  have e11_11 := Ev.oth qa11 (by decide) e10_11
  have e11_3 := Ev.oth qa11 (by decide) e10_3
  have e11_55 := Ev.oth qa11 (by decide) e10_55
  have e11_61 := Ev.oth qa11 (by decide) e10_61
  have e11_62 := Ev.sam qa11 (by rw [k10.1, hsz]; decide)
  rw [← qa11]
  clear qa11 e10_9 e10_11 e10_3 e10_55 e10_61
  clear e11_61
  refine pure_ (i := 11) (N := some 63) (v := .int .i64 (x)) #[true, true, true, true, true, true, true, true, true, true, true, true, false, false, false, false, false, false, false, false] (Rg.of hops (Rg.atS (Rg.atS (Rg.atS (Rg.atS (Rg.atS (Rg.atS (Rg.atS (Rg.atS (Rg.atS (Rg.atS (Rg.atS Rg.at0)))))))))))) rfl (by kernel_rfl) (fun c _ _ h => hP c _ _ _ (by rfl) h) (Or.inl ⟨Ev.wanted rfl, fun w_ => ?_⟩) rfl ?_
  · unfold execOp
    generalize a11.eval = ev at *
    go_simp
  obtain ⟨a12, qa12⟩ : ∃ z_, z_ = a11.put (some 63) (.int .i64 (x)) := ⟨_, rfl⟩
  have k12 : Ev.Stay [52, 53, 54, 55, 56, 57, 58, 59, 60, 61, 62, 63, 64, 65, 66, 67, 68, 69, 70] a a12 := by rw [qa12]; exact k11.put (by decide) _
  have e12_9 := Ev.oth qa12 (by decide) e11_9
  have e12_11 := Ev.oth qa12 (by decide) e11_11
  have e12_3 := Ev.oth qa12 (by decide) e11_3
  have e12_55 := Ev.oth qa12 (by decide) e11_55
  have e12_62 := Ev.oth qa12 (by decide) e11_62
  have e12_63 := Ev.sam qa12 (by rw [k11.1, hsz]; decide)
  rw [← qa12]
  clear qa12 e11_9 e11_11 e11_3 e11_55 e11_62
  refine pure_ (i := 12) (N := some 64) (v := .int .i64 ((k + 1 : Nat) : Int)) #[true, true, true, true, true, true, true, true, true, true, true, true, true, false, false, false, false, false, false, false] (Rg.of hops (Rg.atS (Rg.atS (Rg.atS (Rg.atS (Rg.atS (Rg.atS (Rg.atS (Rg.atS (Rg.atS (Rg.atS (Rg.atS (Rg.atS Rg.at0))))))))))))) rfl (by kernel_rfl) (fun c _ _ h => hP c _ _ _ (by rfl) h) (Or.inl ⟨Ev.wanted rfl, fun w_ => ?_⟩) rfl ?_
  · unfold execOp
    generalize a12.eval = ev at *
    go_simp
  obtain ⟨a13, qa13⟩ : ∃ z_, z_ = a12.put (some 64) (.int .i64 ((k + 1 : Nat) : Int)) := ⟨_, rfl⟩
  have k13 : Ev.Stay [52, 53, 54, 55, 56, 57, 58, 59, 60, 61, 62, 63, 64, 65, 66, 67, 68, 69, 70] a a13 := by rw [qa13]; exact k12.put (by decide) _
  have e13_9 := Ev.oth qa13 (by decide) e12_9
  have e13_11 := Ev.oth qa13 (by decide) e12_11
  have e13_3 := Ev.oth qa13 (by decide) e12_3
  have e13_55 := Ev.oth qa13 (by decide) e12_55
  have e13_62 := Ev.oth qa13 (by decide) e12_62
  have e13_63 := Ev.oth qa13 (by decide) e12_63
  have e13_64 := Ev.sam qa13 (by rw [k12.1, hsz]; decide)
  rw [← qa13]
  clear qa13 e12_9 e12_11 e12_3 e12_55 e12_62 e12_63
  refine pure_ (i := 13) (N := some 65) (v := .int .i64 (k : Int)) #[true, true, true, true, true, true, true, true, true, true, true, true, true, true, false, false, false, false, false, false] (Rg.of hops (Rg.atS (Rg.atS (Rg.atS (Rg.atS (Rg.atS (Rg.atS (Rg.atS (Rg.atS (Rg.atS (Rg.atS (Rg.atS (Rg.atS (Rg.atS Rg.at0)))))))))))))) rfl (by kernel_rfl) (fun c _ _ h => hP c _ _ _ (by rfl) h) (Or.inl ⟨Ev.wanted rfl, fun w_ => ?_⟩) rfl ?_
  · have ec0 : a13.eval (.const (.int .i64 (1))) = .int .i64 (1) := rfl
    have d_ : (k : Int) + 1 - 1 = (k : Int) := by omega
    have d2_ : IntKind.i64.wrap (k : Int) = (k : Int) := wr (by omega) (by omega)
    unfold execOp
    generalize a13.eval = ev at *
    (go_simp; try (exact wr (by omega) (by omega)))
  obtain ⟨a14, qa14⟩ : ∃ z_, z_ = a13.put (some 65) (.int .i64 (k : Int)) := ⟨_, rfl⟩
  have k14 : Ev.Stay [52, 53, 54, 55, 56, 57, 58, 59, 60, 61, 62, 63, 64, 65, 66, 67, 68, 69, 70] a a14 := by rw [qa14]; exact k13.put (by decide) _
  have e14_9 := Ev.oth qa14 (by decide) e13_9
  have e14_11 := Ev.oth qa14 (by decide) e13_11
  have e14_3 := Ev.oth qa14 (by decide) e13_3
  have e14_55 := Ev.oth qa14 (by decide) e13_55
  have e14_62 := Ev.oth qa14 (by decide) e13_62
  have e14_63 := Ev.oth qa14 (by decide) e13_63
  have e14_64 := Ev.oth qa14 (by decide) e13_64
  have e14_65 := Ev.sam qa14 (by rw [k13.1, hsz]; decide)
  rw [← qa14]
  clear qa14 e13_9 e13_11 e13_3 e13_55 e13_62 e13_63 e13_64
  clear e14_64
  refine pure_ (i := 14) (N := some 66) (v := .int .u64 (k : Int)) #[true, true, true, true, true, true, true, true, true, true, true, true, true, true, true, false, false, false, false, false] (Rg.of hops (Rg.atS (Rg.atS (Rg.atS (Rg.atS (Rg.atS (Rg.atS (Rg.atS (Rg.atS (Rg.atS (Rg.atS (Rg.atS (Rg.atS (Rg.atS (Rg.atS Rg.at0))))))))))))))) rfl (by kernel_rfl) (fun c _ _ h => hP c _ _ _ (by rfl) h) (Or.inl ⟨Ev.wanted rfl, fun w_ => ?_⟩) rfl ?_
  · have u_ : IntKind.u64.wrap (k : Int) = (k : Int) := wu (by omega) (by omega)
    unfold execOp
    generalize a14.eval = ev at *
    go_simp
  obtain ⟨a15, qa15⟩ : ∃ z_, z_ = a14.put (some 66) (.int .u64 (k : Int)) := ⟨_, rfl⟩
  have k15 : Ev.Stay [52, 53, 54, 55, 56, 57, 58, 59, 60, 61, 62, 63, 64, 65, 66, 67, 68, 69, 70] a a15 := by rw [qa15]; exact k14.put (by decide) _
  have e15_9 := Ev.oth qa15 (by decide) e14_9
  have e15_11 := Ev.oth qa15 (by decide) e14_11
  have e15_3 := Ev.oth qa15 (by decide) e14_3
  have e15_55 := Ev.oth qa15 (by decide) e14_55
  have e15_62 := Ev.oth qa15 (by decide) e14_62
  have e15_63 := Ev.oth qa15 (by decide) e14_63
  have e15_65 := Ev.oth qa15 (by decide) e14_65
  have e15_66 := Ev.sam qa15 (by rw [k14.1, hsz]; decide)
  rw [← qa15]
  clear qa15 e14_9 e14_11 e14_3 e14_55 e14_62 e14_63 e14_65
  clear e15_65
  refine pure_ (i := 15) (N := some 67) (v := .int .i64 (x / 2 ^ k)) #[true, true, true, true, true, true, true, true, true, true, true, true, true, true, true, true, false, false, false, false] (Rg.of hops (Rg.atS (Rg.atS (Rg.atS (Rg.atS (Rg.atS (Rg.atS (Rg.atS (Rg.atS (Rg.atS (Rg.atS (Rg.atS (Rg.atS (Rg.atS (Rg.atS (Rg.atS Rg.at0)))))))))))))))) rfl (by kernel_rfl) (fun c _ _ h => hP c _ _ _ (by rfl) h) (Or.inl ⟨Ev.wanted rfl, fun w_ => ?_⟩) rfl ?_
  · have l0_ : (0 : Int) ≤ (k : Int) := by omega
    have mn_ : min k 64 = k := by omega
    unfold execOp
    generalize a15.eval = ev at *
    go_simp
  obtain ⟨a16, qa16⟩ : ∃ z_, z_ = a15.put (some 67) (.int .i64 (x / 2 ^ k)) := ⟨_, rfl⟩
  have k16 : Ev.Stay [52, 53, 54, 55, 56, 57, 58, 59, 60, 61, 62, 63, 64, 65, 66, 67, 68, 69, 70] a a16 := by rw [qa16]; exact k15.put (by decide) _
  have e16_9 := Ev.oth qa16 (by decide) e15_9
  have e16_11 := Ev.oth qa16 (by decide) e15_11
  have e16_3 := Ev.oth qa16 (by decide) e15_3
  have e16_55 := Ev.oth qa16 (by decide) e15_55
  have e16_62 := Ev.oth qa16 (by decide) e15_62
  have e16_63 := Ev.oth qa16 (by decide) e15_63
  have e16_66 := Ev.oth qa16 (by decide) e15_66
  have e16_67 := Ev.sam qa16 (by rw [k15.1, hsz]; decide)
  rw [← qa16]
  clear qa16 e15_9 e15_11 e15_3 e15_55 e15_62 e15_63 e15_66
  clear e16_63
  clear e16_66
  refine pure_ (i := 16) (N := some 68) (v := .int .i64 (bt)) #[true, true, true, true, true, true, true, true, true, true, true, true, true, true, true, true, true, false, false, false] (Rg.of hops (Rg.atS (Rg.atS (Rg.atS (Rg.atS (Rg.atS (Rg.atS (Rg.atS (Rg.atS (Rg.atS (Rg.atS (Rg.atS (Rg.atS (Rg.atS (Rg.atS (Rg.atS (Rg.atS Rg.at0))))))))))))))))) rfl (by kernel_rfl) (fun c _ _ h => hP c _ _ _ (by rfl) h) (Or.inl ⟨Ev.wanted rfl, fun w_ => ?_⟩) rfl ?_
  · have ec0 : a16.eval (.const (.int .i64 (1))) = .int .i64 (1) := rfl
    have hb_ := hb
    unfold execOp
    generalize a16.eval = ev at *
    go_simp
  obtain ⟨a17, qa17⟩ : ∃ z_, z_ = a16.put (some 68) (.int .i64 (bt)) := ⟨_, rfl⟩
  have k17 : Ev.Stay [52, 53, 54, 55, 56, 57, 58, 59, 60, 61, 62, 63, 64, 65, 66, 67, 68, 69, 70] a a17 := by rw [qa17]; exact k16.put (by decide) _
  have e17_9 := Ev.oth qa17 (by decide) e16_9
  have e17_11 := Ev.oth qa17 (by decide) e16_11
  have e17_3 := Ev.oth qa17 (by decide) e16_3
  have e17_55 := Ev.oth qa17 (by decide) e16_55
  have e17_62 := Ev.oth qa17 (by decide) e16_62
  have e17_67 := Ev.oth qa17 (by decide) e16_67
  have e17_68 := Ev.sam qa17 (by rw [k16.1, hsz]; decide)
  rw [← qa17]
  clear qa17 e16_9 e16_11 e16_3 e16_55 e16_62 e16_67
  clear e17_67
  refine pure_ (i := 17) (N := some 69) (v := .int .i64 (G k 0 + bt)) #[true, true, true, true, true, true, true, true, true, true, true, true, true, true, true, true, true, true, false, false] (Rg.of hops (Rg.atS (Rg.atS (Rg.atS (Rg.atS (Rg.atS (Rg.atS (Rg.atS (Rg.atS (Rg.atS (Rg.atS (Rg.atS (Rg.atS (Rg.atS (Rg.atS (Rg.atS (Rg.atS (Rg.atS Rg.at0)))))))))))))))))) rfl (by kernel_rfl) (fun c _ _ h => hP c _ _ _ (by rfl) h) (Or.inl ⟨Ev.wanted rfl, fun w_ => ?_⟩) rfl ?_
  · have g1 := hg.1
    have g2 := hg.2
    have b1 := hbt.1
    have b2 := hbt.2
    unfold execOp
    generalize a17.eval = ev at *
    (go_simp; exact wr (by omega) (by omega))
  obtain ⟨a18, qa18⟩ : ∃ z_, z_ = a17.put (some 69) (.int .i64 (G k 0 + bt)) := ⟨_, rfl⟩
  have k18 : Ev.Stay [52, 53, 54, 55, 56, 57, 58, 59, 60, 61, 62, 63, 64, 65, 66, 67, 68, 69, 70] a a18 := by rw [qa18]; exact k17.put (by decide) _
  have e18_9 := Ev.oth qa18 (by decide) e17_9
  have e18_11 := Ev.oth qa18 (by decide) e17_11
  have e18_3 := Ev.oth qa18 (by decide) e17_3
  have e18_55 := Ev.oth qa18 (by decide) e17_55
  have e18_62 := Ev.oth qa18 (by decide) e17_62
  have e18_68 := Ev.oth qa18 (by decide) e17_68
  have e18_69 := Ev.sam qa18 (by rw [k17.1, hsz]; decide)
  rw [← qa18]
  clear qa18 e17_9 e17_11 e17_3 e17_55 e17_62 e17_68
  clear e18_62
  clear e18_68
  refine pure_ (i := 18) (N := some 70) (v := .pointer (some ⟨gs (k + 1), 0, none⟩)) #[true, true, true, true, true, true, true, true, true, true, true, true, true, true, true, true, true, true, true, false] (Rg.of hops (Rg.atS (Rg.atS (Rg.atS (Rg.atS (Rg.atS (Rg.atS (Rg.atS (Rg.atS (Rg.atS (Rg.atS (Rg.atS (Rg.atS (Rg.atS (Rg.atS (Rg.atS (Rg.atS (Rg.atS (Rg.atS Rg.at0))))))))))))))))))) rfl (by kernel_rfl) (fun c _ _ h => hP c _ _ _ (by rfl) h) (Or.inl ⟨Ev.wanted rfl, fun w_ => ?_⟩) rfl ?_
  · have ec0 : a18.eval (.const (.int .i64 (0))) = .int .i64 (0) := rfl
    have lk_ : (0 : Int) < (t : Int) + 1 := by omega
    unfold execOp
    generalize a18.eval = ev at *
    go_simp
  obtain ⟨a19, qa19⟩ : ∃ z_, z_ = a18.put (some 70) (.pointer (some ⟨gs (k + 1), 0, none⟩)) := ⟨_, rfl⟩
  have k19 : Ev.Stay [52, 53, 54, 55, 56, 57, 58, 59, 60, 61, 62, 63, 64, 65, 66, 67, 68, 69, 70] a a19 := by rw [qa19]; exact k18.put (by decide) _
  have e19_9 := Ev.oth qa19 (by decide) e18_9
  have e19_11 := Ev.oth qa19 (by decide) e18_11
  have e19_3 := Ev.oth qa19 (by decide) e18_3
  have e19_55 := Ev.oth qa19 (by decide) e18_55
  have e19_69 := Ev.oth qa19 (by decide) e18_69
  have e19_70 := Ev.sam qa19 (by rw [k18.1, hsz]; decide)
  rw [← qa19]
  clear qa19 e18_9 e18_11 e18_3 e18_55 e18_69
  clear e19_55
  refine last_ (i := 19) (N := none) #[true, true, true, true, true, true, true, true, true, true, true, true, true, true, true, true, true, true, true, true] (Rg.of hops (Rg.atS (Rg.atS (Rg.atS (Rg.atS (Rg.atS (Rg.atS (Rg.atS (Rg.atS (Rg.atS (Rg.atS (Rg.atS (Rg.atS (Rg.atS (Rg.atS (Rg.atS (Rg.atS (Rg.atS (Rg.atS (Rg.atS Rg.at0)))))))))))))))))))) rfl (by kernel_rfl) (by decide) (fun K hK => ?_)
  rw [if_pos (Ev.wanted rfl)]
  refine Ev.store rfl rfl e19_70 e19_69 (Ev.store3 (hHeld.el (by omega) (by omega)) (hHeld.fr (by omega))) ?_
  refine hK.out _ _ ?_
  refine done_ (by kernel_rfl) ?_
  exact hQ _ k19
set_option maxHeartbeats 2000000 in
theorem Rg.u18 {id : Nat} {Q : Exit → Act → World → Prop} {a : Act} {W : World} {go t r c : Nat} {gs : Nat → Nat} {G : Nat → Nat → Int}
    (hsz : a.tmps.size = 133) (hP : ∀ c a a' w, a'.defers = a.defers → Q (.panic c) a w → Q (.panic c) a' w)  (h9 : a.eval (.tmp 9) = .slice (some ⟨go, 0, none⟩) (t + 1) (t + 1)) (h12 : a.eval (.tmp 12) = .int .i64 ((r + 1 : Nat) : Int)) (h13 : a.eval (.tmp 13) = .int .i64 ((c + 1 : Nat) : Int)) (hG : Mx W.drew go (t + 1) gs G) (ht : t ≤ 3) (hr : r < t) (hc : c < t) (hg : 0 ≤ G r c ∧ G r c ≤ 100)
    (hQ : ∀ a', Ev.Stay [93, 94, 95, 96, 97, 98, 99, 100, 101, 102, 103, 104, 105, 106, 107, 108] a a' → Q .normal a' (W.drew.setCell ⟨gs (r + 1), c + 1, none⟩ (.int .i64 (G r c + 1)))) : (Code.region id (Rf.ops 19 18) true).wp Try.prog Q a W := by
  have hops : Rf.ops 19 18 = List.toArray [_, _, _, _, _, _, _, _, _, _, _, _, _, _, _, _, _] := rfl
  refine start_ (S := fun w_ => Mx w_ go (t + 1) gs G) (ds := [16]) #[false, false, false, false, false, false, false, false, false, false, false, false, false, false, false, false, false] (by kernel_rfl) (n := 17) rfl rfl ?S0 (fun hHeld => ?_)
  case S0 => exact hG
  have k0 : Ev.Stay [93, 94, 95, 96, 97, 98, 99, 100, 101, 102, 103, 104, 105, 106, 107, 108] a a := Ev.Stay.refl [93, 94, 95, 96, 97, 98, 99, 100, 101, 102, 103, 104, 105, 106, 107, 108] a
  refine pure_ (i := 0) (N := some 93) (v := .slice (some ⟨go, 0, none⟩) (t + 1) (t + 1)) #[true, false, false, false, false, false, false, false, false, false, false, false, false, false, false, false, false] (Rg.of hops Rg.at0) rfl (by kernel_rfl) (fun c _ _ h => hP c _ _ _ (by rfl) h) (Or.inl ⟨Ev.wanted rfl, fun w_ => ?_⟩) rfl ?_
  · unfold execOp
    generalize a.eval = ev at *
    go_simp
  obtain ⟨a1, qa1⟩ : ∃ z_, z_ = a.put (some 93) (.slice (some ⟨go, 0, none⟩) (t + 1) (t + 1)) := ⟨_, rfl⟩
  have k1 : Ev.Stay [93, 94, 95, 96, 97, 98, 99, 100, 101, 102, 103, 104, 105, 106, 107, 108] a a1 := by rw [qa1]; exact k0.put (by decide) _
  have e1_9 := Ev.oth qa1 (by decide) h9
  have e1_12 := Ev.oth qa1 (by decide) h12
  have e1_13 := Ev.oth qa1 (by decide) h13
  have e1_93 := Ev.sam qa1 (by rw [k0.1, hsz]; decide)
  rw [← qa1]
  clear qa1 
  refine pure_ (i := 1) (N := some 94) (v := .int .i64 ((r + 1 : Nat) : Int)) #[true, true, false, false, false, false, false, false, false, false, false, false, false, false, false, false, false] (Rg.of hops (Rg.atS Rg.at0)) rfl (by kernel_rfl) (fun c _ _ h => hP c _ _ _ (by rfl) h) (Or.inl ⟨Ev.wanted rfl, fun w_ => ?_⟩) rfl ?_
  · unfold execOp
    generalize a1.eval = ev at *
    go_simp
  obtain ⟨a2, qa2⟩ : ∃ z_, z_ = a1.put (some 94) (.int .i64 ((r + 1 : Nat) : Int)) := ⟨_, rfl⟩
  have k2 : Ev.Stay [93, 94, 95, 96, 97, 98, 99, 100, 101, 102, 103, 104, 105, 106, 107, 108] a a2 := by rw [qa2]; exact k1.put (by decide) _
  have e2_9 := Ev.oth qa2 (by decide) e1_9
  have e2_12 := Ev.oth qa2 (by decide) e1_12
  have e2_13 := Ev.oth qa2 (by decide) e1_13
  have e2_93 := Ev.oth qa2 (by decide) e1_93
  have e2_94 := Ev.sam qa2 (by rw [k1.1, hsz]; decide)
  rw [← qa2]
  clear qa2 e1_9 e1_12 e1_13 e1_93
  refine pure_ (i := 2) (N := some 95) (v := .pointer (some ⟨go, r + 1, none⟩)) #[true, true, true, false, false, false, false, false, false, false, false, false, false, false, false, false, false] (Rg.of hops (Rg.atS (Rg.atS Rg.at0))) rfl (by kernel_rfl) (fun c _ _ h => hP c _ _ _ (by rfl) h) (Or.inl ⟨Ev.wanted rfl, fun w_ => ?_⟩) rfl ?_
  · have lk_ : (r : Int) + 1 < (t : Int) + 1 := by omega
    have lk0_ : (0 : Int) ≤ (r : Int) + 1 := by omega
    have lk2_ : (r : Int) < (t : Int) := by omega
    unfold execOp
    generalize a2.eval = ev at *
    go_simp
  obtain ⟨a3, qa3⟩ : ∃ z_, z_ = a2.put (some 95) (.pointer (some ⟨go, r + 1, none⟩)) := ⟨_, rfl⟩
  have k3 : Ev.Stay [93, 94, 95, 96, 97, 98, 99, 100, 101, 102, 103, 104, 105, 106, 107, 108] a a3 := by rw [qa3]; exact k2.put (by decide) _
  have e3_9 := Ev.oth qa3 (by decide) e2_9
  have e3_12 := Ev.oth qa3 (by decide) e2_12
  have e3_13 := Ev.oth qa3 (by decide) e2_13
  have e3_93 := Ev.oth qa3 (by decide) e2_93
  have e3_94 := Ev.oth qa3 (by decide) e2_94
  have e3_95 := Ev.sam qa3 (by rw [k2.1, hsz]; decide)
  rw [← qa3]
  clear qa3 e2_9 e2_12 e2_13 e2_93 e2_94
  clear e3_93
  clear e3_94
  refine take_ (i := 3) (N := some 96) (v := .slice (some ⟨gs (r + 1), 0, none⟩) (t + 1) (t + 1)) #[true, true, true, true, false, false, false, false, false, false, false, false, false, false, false, false, false] (Rg.of hops (Rg.atS (Rg.atS (Rg.atS Rg.at0)))) rfl (by kernel_rfl) (fun c _ _ h => hP c _ _ _ (by rfl) h) (Ev.loadW (Ev.wanted rfl) rfl e3_95 (fun w hw => Ev.load56 (hw.row (by omega)))) hHeld rfl ?_
  obtain ⟨a4, qa4⟩ : ∃ z_, z_ = a3.put (some 96) (.slice (some ⟨gs (r + 1), 0, none⟩) (t + 1) (t + 1)) := ⟨_, rfl⟩
  have k4 : Ev.Stay [93, 94, 95, 96, 97, 98, 99, 100, 101, 102, 103, 104, 105, 106, 107, 108] a a4 := by rw [qa4]; exact k3.put (by decide) _
  have e4_9 := Ev.oth qa4 (by decide) e3_9
  have e4_12 := Ev.oth qa4 (by decide) e3_12
  have e4_13 := Ev.oth qa4 (by decide) e3_13
  have e4_95 := Ev.oth qa4 (by decide) e3_95
  have e4_96 := Ev.sam qa4 (by rw [k3.1, hsz]; decide)
  rw [← qa4]
  clear qa4 e3_9 e3_12 e3_13 e3_95
  clear e4_95
  refine pure_ (i := 4) (N := some 97) (v := .int .i64 ((c + 1 : Nat) : Int)) #[true, true, true, true, true, false, false, false, false, false, false, false, false, false, false, false, false] (Rg.of hops (Rg.atS (Rg.atS (Rg.atS (Rg.atS Rg.at0))))) rfl (by kernel_rfl) (fun c _ _ h => hP c _ _ _ (by rfl) h) (Or.inl ⟨Ev.wanted rfl, fun w_ => ?_⟩) rfl ?_
  · unfold execOp
    generalize a4.eval = ev at *
    go_simp
  obtain ⟨a5, qa5⟩ : ∃ z_, z_ = a4.put (some 97) (.int .i64 ((c + 1 : Nat) : Int)) := ⟨_, rfl⟩
  have k5 : Ev.Stay [93, 94, 95, 96, 97, 98, 99, 100, 101, 102, 103, 104, 105, 106, 107, 108] a a5 := by rw [qa5]; exact k4.put (by decide) _
  have e5_9 := Ev.oth qa5 (by decide) e4_9
  have e5_12 := Ev.oth qa5 (by decide) e4_12
  have e5_13 := Ev.oth qa5 (by decide) e4_13
  have e5_96 := Ev.oth qa5 (by decide) e4_96
  have e5_97 := Ev.sam qa5 (by rw [k4.1, hsz]; decide)
  rw [← qa5]
  clear qa5 e4_9 e4_12 e4_13 e4_96
  refine pure_ (i := 5) (N := some 98) (v := .slice (some ⟨go, 0, none⟩) (t + 1) (t + 1)) #[true, true, true, true, true, true, false, false, false, false, false, false, false, false, false, false, false] (Rg.of hops (Rg.atS (Rg.atS (Rg.atS (Rg.atS (Rg.atS Rg.at0)))))) rfl (by kernel_rfl) (fun c _ _ h => hP c _ _ _ (by rfl) h) (Or.inl ⟨Ev.wanted rfl, fun w_ => ?_⟩) rfl ?_
  · unfold execOp
    generalize a5.eval = ev at *
    go_simp
  obtain ⟨a6, qa6⟩ : ∃ z_, z_ = a5.put (some 98) (.slice (some ⟨go, 0, none⟩) (t + 1) (t + 1)) := ⟨_, rfl⟩
  have k6 : Ev.Stay [93, 94, 95, 96, 97, 98, 99, 100, 101, 102, 103, 104, 105, 106, 107, 108] a a6 := by rw [qa6]; exact k5.put (by decide) _
  have e6_9 := Ev.oth qa6 (by decide) e5_9
  have e6_12 := Ev.oth qa6 (by decide) e5_12
  have e6_13 := Ev.oth qa6 (by decide) e5_13
  have e6_96 := Ev.oth qa6 (by decide) e5_96
  have e6_97 := Ev.oth qa6 (by decide) e5_97
  have e6_98 := Ev.sam qa6 (by rw [k5.1, hsz]; decide)
  rw [← qa6]
  clear qa6 e5_9 e5_12 e5_13 e5_96 e5_97
  refine pure_ (i := 6) (N := some 99) (v := .int .i64 ((r + 1 : Nat) : Int)) #[true, true, true, true, true, true, true, false, false, false, false, false, false, false, false, false, false] (Rg.of hops (Rg.atS (Rg.atS (Rg.atS (Rg.atS (Rg.atS (Rg.atS Rg.at0))))))) rfl (by kernel_rfl) (fun c _ _ h => hP c _ _ _ (by rfl) h) (Or.inl ⟨Ev.wanted rfl, fun w_ => ?_⟩) rfl ?_
  · unfold execOp
    generalize a6.eval = ev at *
    go_simp
  obtain ⟨a7, qa7⟩ : ∃ z_, z_ = a6.put (some 99) (.int .i64 ((r + 1 : Nat) : Int)) := ⟨_, rfl⟩
  have k7 : Ev.Stay [93, 94, 95, 96, 97, 98, 99, 100, 101, 102, 103, 104, 105, 106, 107, 108] a a7 := by rw [qa7]; exact k6.put (by decide) _
  have e7_9 := Ev.oth qa7 (by decide) e6_9
  have e7_12 := Ev.oth qa7 (by decide) e6_12
  have e7_13 := Ev.oth qa7 (by decide) e6_13
  have e7_96 := Ev.oth qa7 (by decide) e6_96
  have e7_97 := Ev.oth qa7 (by decide) e6_97
  have e7_98 := Ev.oth qa7 (by decide) e6_98
  have e7_99 := Ev.sam qa7 (by rw [k6.1, hsz]; decide)
  rw [← qa7]
  clear qa7 e6_9 e6_12 e6_13 e6_96 e6_97 e6_98
  refine pure_ (i := 7) (N := some 100) (v := .int .i64 (r : Int)) #[true, true, true, true, true, true, true, true, false, false, false, false, false, false, false, false, false] (Rg.of hops (Rg.atS (Rg.atS (Rg.atS (Rg.atS (Rg.atS (Rg.atS (Rg.atS Rg.at0)))))))) rfl (by kernel_rfl) (fun c _ _ h => hP c _ _ _ (by rfl) h) (Or.inl ⟨Ev.wanted rfl, fun w_ => ?_⟩) rfl ?_
  · have ec0 : a7.eval (.const (.int .i64 (1))) = .int .i64 (1) := rfl
    have d_ : (r : Int) + 1 - 1 = (r : Int) := by omega
    have d2_ : IntKind.i64.wrap (r : Int) = (r : Int) := wr (by omega) (by omega)
    unfold execOp
    generalize a7.eval = ev at *
    (go_simp; try (exact wr (by omega) (by omega)))
  obtain ⟨a8, qa8⟩ : ∃ z_, z_ = a7.put (some 100) (.int .i64 (r : Int)) := ⟨_, rfl⟩
  have k8 : Ev.Stay [93, 94, 95, 96, 97, 98, 99, 100, 101, 102, 103, 104, 105, 106, 107, 108] a a8 := by rw [qa8]; exact k7.put (by decide) _
  have e8_9 := Ev.oth qa8 (by decide) e7_9
  have e8_12 := Ev.oth qa8 (by decide) e7_12
  have e8_13 := Ev.oth qa8 (by decide) e7_13
  have e8_96 := Ev.oth qa8 (by decide) e7_96
  have e8_97 := Ev.oth qa8 (by decide) e7_97
  have e8_98 := Ev.oth qa8 (by decide) e7_98
  have e8_99 := Ev.oth qa8 (by decide) e7_99
  have e8_100 := Ev.sam qa8 (by rw [k7.1, hsz]; decide)
  rw [← qa8]
  clear qa8 e7_9 e7_12 e7_13 e7_96 e7_97 e7_98 e7_99
  clear e8_99
  refine pure_ (i := 8) (N := some 101) (v := .pointer (some ⟨go, r, none⟩)) #[true, true, true, true, true, true, true, true, true, false, false, false, false, false, false, false, false] (Rg.of hops (Rg.atS (Rg.atS (Rg.atS (Rg.atS (Rg.atS (Rg.atS (Rg.atS (Rg.atS Rg.at0))))))))) rfl (by kernel_rfl) (fun c _ _ h => hP c _ _ _ (by rfl) h) (Or.inl ⟨Ev.wanted rfl, fun w_ => ?_⟩) rfl ?_
  · have lk_ : (r : Int) < (t : Int) + 1 := by omega
    have lk0_ : (0 : Int) ≤ (r : Int) := by omega
    unfold execOp
    generalize a8.eval = ev at *
    go_simp
  obtain ⟨a9, qa9⟩ : ∃ z_, z_ = a8.put (some 101) (.pointer (some ⟨go, r, none⟩)) := ⟨_, rfl⟩
  have k9 : Ev.Stay [93, 94, 95, 96, 97, 98, 99, 100, 101, 102, 103, 104, 105, 106, 107, 108] a a9 := by rw [qa9]; exact k8.put (by decide) _
  have e9_9 := Ev.oth qa9 (by decide) e8_9
  have e9_12 := Ev.oth qa9 (by decide) e8_12
  have e9_13 := Ev.oth qa9 (by decide) e8_13
  have e9_96 := Ev.oth qa9 (by decide) e8_96
  have e9_97 := Ev.oth qa9 (by decide) e8_97
  have e9_98 := Ev.oth qa9 (by decide) e8_98
  have e9_100 := Ev.oth qa9 (by decide) e8_100
  have e9_101 := Ev.sam qa9 (by rw [k8.1, hsz]; decide)
  rw [← qa9]
  clear qa9 e8_9 e8_12 e8_13 e8_96 e8_97 e8_98 e8_100
  clear e9_98
  clear e9_100
  refine take_ (i := 9) (N := some 102) (v := .slice (some ⟨gs (r), 0, none⟩) (t + 1) (t + 1)) #[true, true, true, true, true, true, true, true, true, true, false, false, false, false, false, false, false] (Rg.of hops (Rg.atS (Rg.atS (Rg.atS (Rg.atS (Rg.atS (Rg.atS (Rg.atS (Rg.atS (Rg.atS Rg.at0)))))))))) rfl (by kernel_rfl) (fun c _ _ h => hP c _ _ _ (by rfl) h) (Ev.loadW (Ev.wanted rfl) rfl e9_101 (fun w hw => Ev.load56 (hw.row (by omega)))) hHeld rfl ?_
  obtain ⟨a10, qa10⟩ : ∃ z_, z_ = a9.put (some 102) (.slice (some ⟨gs (r), 0, none⟩) (t + 1) (t + 1)) := ⟨_, rfl⟩
  have k10 : Ev.Stay [93, 94, 95, 96, 97, 98, 99, 100, 101, 102, 103, 104, 105, 106, 107, 108] a a10 := by rw [qa10]; exact k9.put (by decide) _
  have e10_9 := Ev.oth qa10 (by decide) e9_9
  have e10_12 := Ev.oth qa10 (by decide) e9_12
  have e10_13 := Ev.oth qa10 (by decide) e9_13
  have e10_96 := Ev.oth qa10 (by decide) e9_96
  have e10_97 := Ev.oth qa10 (by decide) e9_97
  have e10_101 := Ev.oth qa10 (by decide) e9_101
  have e10_102 := Ev.sam qa10 (by rw [k9.1, hsz]; decide)
  rw [← qa10]
  clear qa10 e9_9 e9_12 e9_13 e9_96 e9_97 e9_101
  clear e10_101
  refine pure_ (i := 10) (N := some 103) (v := .int .i64 ((c + 1 : Nat) : Int)) #[true, true, true, true, true, true, true, true, true, true, true, false, false, false, false, false, false] (Rg.of hops (Rg.atS (Rg.atS (Rg.atS (Rg.atS (Rg.atS (Rg.atS (Rg.atS (Rg.atS (Rg.atS (Rg.atS Rg.at0))))))))))) rfl (by kernel_rfl) (fun c _ _ h => hP c _ _ _ (by rfl) h) (Or.inl ⟨Ev.wanted rfl, fun w_ => ?_⟩) rfl ?_
  · unfold execOp
    generalize a10.eval = ev at *
    go_simp
  obtain ⟨a11, qa11⟩ : ∃ z_, z_ = a10.put (some 103) (.int .i64 ((c + 1 : Nat) : Int)) := ⟨_, rfl⟩
  have k11 : Ev.Stay [93, 94, 95, 96, 97, 98, 99, 100, 101, 102, 103, 104, 105, 106, 107, 108] a a11 := by rw [qa11]; exact k10.put (by decide) _
  have e11_9 := Ev.oth qa11 (by decide) e10_9
  have e11_12 := Ev.oth qa11 (by decide) e10_12
  have e11_13 := Ev.oth qa11 (by decide) e10_13
  have e11_96 := Ev.oth qa11 (by decide) e10_96
  have e11_97 := Ev.oth qa11 (by decide) e10_97
  have e11_102 := Ev.oth qa11 (by decide) e10_102
  have e11_103 := Ev.sam qa11 (by rw [k10.1, hsz]; decide)
  rw [← qa11]
  clear qa11 e10_9 e10_12 e10_13 e10_96 e10_97 e10_102
  refine pure_ (i := 11) (N := some 104) (v := .int .i64 (c : Int)) #[true, true, true, true, true, true, true, true, true, true, true, true, false, false, false, false, false] (Rg.of hops (Rg.atS (Rg.atS (Rg.atS (Rg.atS (Rg.atS (Rg.atS (Rg.atS (Rg.atS (Rg.atS (Rg.atS (Rg.atS Rg.at0)))))))))))) rfl (by kernel_rfl) (fun c _ _ h => hP c _ _ _ (by rfl) h) (Or.inl ⟨Ev.wanted rfl, fun w_ => ?_⟩) rfl ?_
  · have ec0 : a11.eval (.const (.int .i64 (1))) = .int .i64 (1) := rfl
    have d_ : (c : Int) + 1 - 1 = (c : Int) := by omega
    have d2_ : IntKind.i64.wrap (c : Int) = (c : Int) := wr (by omega) (by omega)
    unfold execOp
    generalize a11.eval = ev at *
    (go_simp; try (exact wr (by omega) (by omega)))
  obtain ⟨a12, qa12⟩ : ∃ z_, z_ = a11.put (some 104) (.int .i64 (c : Int)) := ⟨_, rfl⟩
  have k12 : Ev.Stay [93, 94, 95, 96, 97, 98, 99, 100, 101, 102, 103, 104, 105, 106, 107, 108] a a12 := by rw [qa12]; exact k11.put (by decide) _
  have e12_9 := Ev.oth qa12 (by decide) e11_9
  have e12_12 := Ev.oth qa12 (by decide) e11_12
  have e12_13 := Ev.oth qa12 (by decide) e11_13
  have e12_96 := Ev.oth qa12 (by decide) e11_96
  have e12_97 := Ev.oth qa12 (by decide) e11_97
  have e12_102 := Ev.oth qa12 (by decide) e11_102
  have e12_103 := Ev.oth qa12 (by decide) e11_103
  have e12_104 := Ev.sam qa12 (by rw [k11.1, hsz]; decide)
  rw [← qa12]
  clear qa12 e11_9 e11_12 e11_13 e11_96 e11_97 e11_102 e11_103
  clear e12_103
  refine pure_ (i := 12) (N := some 105) (v := .pointer (some ⟨gs (r), c, none⟩)) #[true, true, true, true, true, true, true, true, true, true, true, true, true, false, false, false, false] (Rg.of hops (Rg.atS (Rg.atS (Rg.atS (Rg.atS (Rg.atS (Rg.atS (Rg.atS (Rg.atS (Rg.atS (Rg.atS (Rg.atS (Rg.atS Rg.at0))))))))))))) rfl (by kernel_rfl) (fun c _ _ h => hP c _ _ _ (by rfl) h) (Or.inl ⟨Ev.wanted rfl, fun w_ => ?_⟩) rfl ?_
  · have lk_ : (c : Int) < (t : Int) + 1 := by omega
    have lk0_ : (0 : Int) ≤ (c : Int) := by omega
    unfold execOp
    generalize a12.eval = ev at *
    go_simp
  obtain ⟨a13, qa13⟩ : ∃ z_, z_ = a12.put (some 105) (.pointer (some ⟨gs (r), c, none⟩)) := ⟨_, rfl⟩
  have k13 : Ev.Stay [93, 94, 95, 96, 97, 98, 99, 100, 101, 102, 103, 104, 105, 106, 107, 108] a a13 := by rw [qa13]; exact k12.put (by decide) _
  have e13_9 := Ev.oth qa13 (by decide) e12_9
  have e13_12 := Ev.oth qa13 (by decide) e12_12
  have e13_13 := Ev.oth qa13 (by decide) e12_13
  have e13_96 := Ev.oth qa13 (by decide) e12_96
  have e13_97 := Ev.oth qa13 (by decide) e12_97
  have e13_102 := Ev.oth qa13 (by decide) e12_102
  have e13_104 := Ev.oth qa13 (by decide) e12_104
  have e13_105 := Ev.sam qa13 (by rw [k12.1, hsz]; decide)
  rw [← qa13]
  clear qa13 e12_9 e12_12 e12_13 e12_96 e12_97 e12_102 e12_104
  clear e13_102
  clear e13_104
  refine take_ (i := 13) (N := some 106) (v := .int .i64 (G (r) (c))) #[true, true, true, true, true, true, true, true, true, true, true, true, true, true, false, false, false] (Rg.of hops (Rg.atS (Rg.atS (Rg.atS (Rg.atS (Rg.atS (Rg.atS (Rg.atS (Rg.atS (Rg.atS (Rg.atS (Rg.atS (Rg.atS (Rg.atS Rg.at0)))))))))))))) rfl (by kernel_rfl) (fun c _ _ h => hP c _ _ _ (by rfl) h) (Ev.loadW (Ev.wanted rfl) rfl e13_105 (fun w hw => Ev.load3 (hw.el (by omega) (by omega)))) hHeld rfl ?_
  obtain ⟨a14, qa14⟩ : ∃ z_, z_ = a13.put (some 106) (.int .i64 (G (r) (c))) := ⟨_, rfl⟩
  have k14 : Ev.Stay [93, 94, 95, 96, 97, 98, 99, 100, 101, 102, 103, 104, 105, 106, 107, 108] a a14 := by rw [qa14]; exact k13.put (by decide) _
  have e14_9 := Ev.oth qa14 (by decide) e13_9
  have e14_12 := Ev.oth qa14 (by decide) e13_12
  have e14_13 := Ev.oth qa14 (by decide) e13_13
  have e14_96 := Ev.oth qa14 (by decide) e13_96
  have e14_97 := Ev.oth qa14 (by decide) e13_97
  have e14_105 := Ev.oth qa14 (by decide) e13_105
  have e14_106 := Ev.sam qa14 (by rw [k13.1, hsz]; decide)
  rw [← qa14]
  clear qa14 e13_9 e13_12 e13_13 e13_96 e13_97 e13_105
  clear e14_105
  refine pure_ (i := 14) (N := some 107) (v := .int .i64 (G r c + 1)) #[true, true, true, true, true, true, true, true, true, true, true, true, true, true, true, false, false] (Rg.of hops (Rg.atS (Rg.atS (Rg.atS (Rg.atS (Rg.atS (Rg.atS (Rg.atS (Rg.atS (Rg.atS (Rg.atS (Rg.atS (Rg.atS (Rg.atS (Rg.atS Rg.at0))))))))))))))) rfl (by kernel_rfl) (fun c _ _ h => hP c _ _ _ (by rfl) h) (Or.inl ⟨Ev.wanted rfl, fun w_ => ?_⟩) rfl ?_
  · have ec0 : a14.eval (.const (.int .i64 (1))) = .int .i64 (1) := rfl
    have g1 := hg.1
    have g2 := hg.2
    unfold execOp
    generalize a14.eval = ev at *
    (go_simp; exact wr (by omega) (by omega))
  obtain ⟨a15, qa15⟩ : ∃ z_, z_ = a14.put (some 107) (.int .i64 (G r c + 1)) := ⟨_, rfl⟩
  have k15 : Ev.Stay [93, 94, 95, 96, 97, 98, 99, 100, 101, 102, 103, 104, 105, 106, 107, 108] a a15 := by rw [qa15]; exact k14.put (by decide) _
  have e15_9 := Ev.oth qa15 (by decide) e14_9
  have e15_12 := Ev.oth qa15 (by decide) e14_12
  have e15_13 := Ev.oth qa15 (by decide) e14_13
  have e15_96 := Ev.oth qa15 (by decide) e14_96
  have e15_97 := Ev.oth qa15 (by decide) e14_97
  have e15_106 := Ev.oth qa15 (by decide) e14_106
  have e15_107 := Ev.sam qa15 (by rw [k14.1, hsz]; decide)
  rw [← qa15]
  clear qa15 e14_9 e14_12 e14_13 e14_96 e14_97 e14_106
  clear e15_106
  refine pure_ (i := 15) (N := some 108) (v := .pointer (some ⟨gs (r + 1), c + 1, none⟩)) #[true, true, true, true, true, true, true, true, true, true, true, true, true, true, true, true, false] (Rg.of hops (Rg.atS (Rg.atS (Rg.atS (Rg.atS (Rg.atS (Rg.atS (Rg.atS (Rg.atS (Rg.atS (Rg.atS (Rg.atS (Rg.atS (Rg.atS (Rg.atS (Rg.atS Rg.at0)))))))))))))))) rfl (by kernel_rfl) (fun c _ _ h => hP c _ _ _ (by rfl) h) (Or.inl ⟨Ev.wanted rfl, fun w_ => ?_⟩) rfl ?_
  · have lk_ : (c : Int) + 1 < (t : Int) + 1 := by omega
    have lk0_ : (0 : Int) ≤ (c : Int) + 1 := by omega
    have lk2_ : (c : Int) < (t : Int) := by omega
    unfold execOp
    generalize a15.eval = ev at *
    go_simp
  obtain ⟨a16, qa16⟩ : ∃ z_, z_ = a15.put (some 108) (.pointer (some ⟨gs (r + 1), c + 1, none⟩)) := ⟨_, rfl⟩
  have k16 : Ev.Stay [93, 94, 95, 96, 97, 98, 99, 100, 101, 102, 103, 104, 105, 106, 107, 108] a a16 := by rw [qa16]; exact k15.put (by decide) _
  have e16_9 := Ev.oth qa16 (by decide) e15_9
  have e16_12 := Ev.oth qa16 (by decide) e15_12
  have e16_13 := Ev.oth qa16 (by decide) e15_13
  have e16_96 := Ev.oth qa16 (by decide) e15_96
  have e16_97 := Ev.oth qa16 (by decide) e15_97
  have e16_107 := Ev.oth qa16 (by decide) e15_107
  have e16_108 := Ev.sam qa16 (by rw [k15.1, hsz]; decide)
  rw [← qa16]
  clear qa16 e15_9 e15_12 e15_13 e15_96 e15_97 e15_107
  clear e16_96
  clear e16_97
  refine last_ (i := 16) (N := none) #[true, true, true, true, true, true, true, true, true, true, true, true, true, true, true, true, true] (Rg.of hops (Rg.atS (Rg.atS (Rg.atS (Rg.atS (Rg.atS (Rg.atS (Rg.atS (Rg.atS (Rg.atS (Rg.atS (Rg.atS (Rg.atS (Rg.atS (Rg.atS (Rg.atS (Rg.atS Rg.at0))))))))))))))))) rfl (by kernel_rfl) (by decide) (fun K hK => ?_)
  rw [if_pos (Ev.wanted rfl)]
  refine Ev.store rfl rfl e16_108 e16_107 (Ev.store3 (hHeld.el (by omega) (by omega)) (hHeld.fr (by omega))) ?_
  refine hK.out _ _ ?_
  refine done_ (by kernel_rfl) ?_
  exact hQ _ k16
set_option maxHeartbeats 2000000 in
theorem Rg.u19 {id : Nat} {Q : Exit → Act → World → Prop} {a : Act} {W : World} {go t r c : Nat} {gs : Nat → Nat} {G : Nat → Nat → Int}
    (hsz : a.tmps.size = 133) (hP : ∀ c a a' w, a'.defers = a.defers → Q (.panic c) a w → Q (.panic c) a' w)  (h9 : a.eval (.tmp 9) = .slice (some ⟨go, 0, none⟩) (t + 1) (t + 1)) (h12 : a.eval (.tmp 12) = .int .i64 ((r + 1 : Nat) : Int)) (h13 : a.eval (.tmp 13) = .int .i64 ((c + 1 : Nat) : Int)) (hG : Mx W.drew go (t + 1) gs G) (ht : t ≤ 3) (hr : r < t) (hc : c < t)
    (hQ : ∀ a', Ev.Stay [109, 110, 111, 112, 113, 114, 115, 116, 117, 118, 119, 120, 121, 122, 123, 124, 125, 126, 127, 128, 129, 130, 131] a a' → Q .normal a' (W.drew.setCell ⟨gs (r + 1), c + 1, none⟩ (.int .i64 (if G r (c + 1) < G (r + 1) c then G (r + 1) c else G r (c + 1))))) : (Code.region id (Rf.ops 19 19) true).wp Try.prog Q a W := by
  have hops : Rf.ops 19 19 = List.toArray [_, _, _, _, _, _, _, _, _, _, _, _, _, _, _, _, _, _, _, _, _, _, _, _] := rfl
  refine start_ (S := fun w_ => Mx w_ go (t + 1) gs G) (ds := [23]) #[false, false, false, false, false, false, false, false, false, false, false, false, false, false, false, false, false, false, false, false, false, false, false, false] (by kernel_rfl) (n := 24) rfl rfl ?S0 (fun hHeld => ?_)
  case S0 => exact hG
  have k0 : Ev.Stay [109, 110, 111, 112, 113, 114, 115, 116, 117, 118, 119, 120, 121, 122, 123, 124, 125, 126, 127, 128, 129, 130, 131] a a := Ev.Stay.refl [109, 110, 111, 112, 113, 114, 115, 116, 117, 118, 119, 120, 121, 122, 123, 124, 125, 126, 127, 128, 129, 130, 131] a
  refine pure_ (i := 0) (N := some 109) (v := .slice (some ⟨go, 0, none⟩) (t + 1) (t + 1)) #[true, false, false, false, false, false, false, false, false, false, false, false, false, false, false, false, false, false, false, false, false, false, false, false] (Rg.of hops Rg.at0) rfl (by kernel_rfl) (fun c _ _ h => hP c _ _ _ (by rfl) h) (Or.inl ⟨Ev.wanted rfl, fun w_ => ?_⟩) rfl ?_
  · unfold execOp
    generalize a.eval = ev at *
    go_simp
  obtain ⟨a1, qa1⟩ : ∃ z_, z_ = a.put (some 109) (.slice (some ⟨go, 0, none⟩) (t + 1) (t + 1)) := ⟨_, rfl⟩
  have k1 : Ev.Stay [109, 110, 111, 112, 113, 114, 115, 116, 117, 118, 119, 120, 121, 122, 123, 124, 125, 126, 127, 128, 129, 130, 131] a a1 := by rw [qa1]; exact k0.put (by decide) _
  have e1_9 := Ev.oth qa1 (by decide) h9
  have e1_12 := Ev.oth qa1 (by decide) h12
  have e1_13 := Ev.oth qa1 (by decide) h13
  have e1_109 := Ev.sam qa1 (by rw [k0.1, hsz]; decide)
  rw [← qa1]
  clear qa1 
  refine pure_ (i := 1) (N := some 110) (v := .int .i64 ((r + 1 : Nat) : Int)) #[true, true, false, false, false, false, false, false, false, false, false, false, false, false, false, false, false, false, false, false, false, false, false, false] (Rg.of hops (Rg.atS Rg.at0)) rfl (by kernel_rfl) (fun c _ _ h => hP c _ _ _ (by rfl) h) (Or.inl ⟨Ev.wanted rfl, fun w_ => ?_⟩) rfl ?_
  · unfold execOp
    generalize a1.eval = ev at *
    go_simp
  obtain ⟨a2, qa2⟩ : ∃ z_, z_ = a1.put (some 110) (.int .i64 ((r + 1 : Nat) : Int)) := ⟨_, rfl⟩
  have k2 : Ev.Stay [109, 110, 111, 112, 113, 114, 115, 116, 117, 118, 119, 120, 121, 122, 123, 124, 125, 126, 127, 128, 129, 130, 131] a a2 := by rw [qa2]; exact k1.put (by decide) _
  have e2_9 := Ev.oth qa2 (by decide) e1_9
  have e2_12 := Ev.oth qa2 (by decide) e1_12
  have e2_13 := Ev.oth qa2 (by decide) e1_13
  have e2_109 := Ev.oth qa2 (by decide) e1_109
  have e2_110 := Ev.sam qa2 (by rw [k1.1, hsz]; decide)
  rw [← qa2]
  clear qa2 e1_9 e1_12 e1_13 e1_109
  refine pure_ (i := 2) (N := some 111) (v := .pointer (some ⟨go, r + 1, none⟩)) #[true, true, true, false, false, false, false, false, false, false, false, false, false, false, false, false, false, false, false, false, false, false, false, false] (Rg.of hops (Rg.atS (Rg.atS Rg.at0))) rfl (by kernel_rfl) (fun c _ _ h => hP c _ _ _ (by rfl) h) (Or.inl ⟨Ev.wanted rfl, fun w_ => ?_⟩) rfl ?_
  · have lk_ : (r : Int) + 1 < (t : Int) + 1 := by omega
    have lk0_ : (0 : Int) ≤ (r : Int) + 1 := by omega
    have lk2_ : (r : Int) < (t : Int) := by omega
    unfold execOp
    generalize a2.eval = ev at *
    go_simp
  obtain ⟨a3, qa3⟩ : ∃ z_, z_ = a2.put (some 111) (.pointer (some ⟨go, r + 1, none⟩)) := ⟨_, rfl⟩
  have k3 : Ev.Stay [109, 110, 111, 112, 113, 114, 115, 116, 117, 118, 119, 120, 121, 122, 123, 124, 125, 126, 127, 128, 129, 130, 131] a a3 := by rw [qa3]; exact k2.put (by decide) _
  have e3_9 := Ev.oth qa3 (by decide) e2_9
  have e3_12 := Ev.oth qa3 (by decide) e2_12
  have e3_13 := Ev.oth qa3 (by decide) e2_13
  have e3_109 := Ev.oth qa3 (by decide) e2_109
  have e3_110 := Ev.oth qa3 (by decide) e2_110
  have e3_111 := Ev.sam qa3 (by rw [k2.1, hsz]; decide)
  rw [← qa3]
  clear qa3 e2_9 e2_12 e2_13 e2_109 e2_110
  clear e3_109
  clear e3_110
  refine take_ (i := 3) (N := some 112) (v := .slice (some ⟨gs (r + 1), 0, none⟩) (t + 1) (t + 1)) #[true, true, true, true, false, false, false, false, false, false, false, false, false, false, false, false, false, false, false, false, false, false, false, false] (Rg.of hops (Rg.atS (Rg.atS (Rg.atS Rg.at0)))) rfl (by kernel_rfl) (fun c _ _ h => hP c _ _ _ (by rfl) h) (Ev.loadW (Ev.wanted rfl) rfl e3_111 (fun w hw => Ev.load56 (hw.row (by omega)))) hHeld rfl ?_
  obtain ⟨a4, qa4⟩ : ∃ z_, z_ = a3.put (some 112) (.slice (some ⟨gs (r + 1), 0, none⟩) (t + 1) (t + 1)) := ⟨_, rfl⟩
  have k4 : Ev.Stay [109, 110, 111, 112, 113, 114, 115, 116, 117, 118, 119, 120, 121, 122, 123, 124, 125, 126, 127, 128, 129, 130, 131] a a4 := by rw [qa4]; exact k3.put (by decide) _
  have e4_9 := Ev.oth qa4 (by decide) e3_9
  have e4_12 := Ev.oth qa4 (by decide) e3_12
  have e4_13 := Ev.oth qa4 (by decide) e3_13
  have e4_111 := Ev.oth qa4 (by decide) e3_111
  have e4_112 := Ev.sam qa4 (by rw [k3.1, hsz]; decide)
  rw [← qa4]
  clear qa4 e3_9 e3_12 e3_13 e3_111
  clear e4_111
  refine pure_ (i := 4) (N := some 113) (v := .int .i64 ((c + 1 : Nat) : Int)) #[true, true, true, true, true, false, false, false, false, false, false, false, false, false, false, false, false, false, false, false, false, false, false, false] (Rg.of hops (Rg.atS (Rg.atS (Rg.atS (Rg.atS Rg.at0))))) rfl (by kernel_rfl) (fun c _ _ h => hP c _ _ _ (by rfl) h) (Or.inl ⟨Ev.wanted rfl, fun w_ => ?_⟩) rfl ?_
  · unfold execOp
    generalize a4.eval = ev at *
    go_simp
  obtain ⟨a5, qa5⟩ : ∃ z_, z_ = a4.put (some 113) (.int .i64 ((c + 1 : Nat) : Int)) := ⟨_, rfl⟩
  have k5 : Ev.Stay [109, 110, 111, 112, 113, 114, 115, 116, 117, 118, 119, 120, 121, 122, 123, 124, 125, 126, 127, 128, 129, 130, 131] a a5 := by rw [qa5]; exact k4.put (by decide) _
  have e5_9 := Ev.oth qa5 (by decide) e4_9
  have e5_12 := Ev.oth qa5 (by decide) e4_12
  have e5_13 := Ev.oth qa5 (by decide) e4_13
  have e5_112 := Ev.oth qa5 (by decide) e4_112
  have e5_113 := Ev.sam qa5 (by rw [k4.1, hsz]; decide)
  rw [← qa5]
  clear qa5 e4_9 e4_12 e4_13 e4_112
  refine pure_ (i := 5) (N := some 114) (v := .slice (some ⟨go, 0, none⟩) (t + 1) (t + 1)) #[true, true, true, true, true, true, false, false, false, false, false, false, false, false, false, false, false, false, false, false, false, false, false, false] (Rg.of hops (Rg.atS (Rg.atS (Rg.atS (Rg.atS (Rg.atS Rg.at0)))))) rfl (by kernel_rfl) (fun c _ _ h => hP c _ _ _ (by rfl) h) (Or.inl ⟨Ev.wanted rfl, fun w_ => ?_⟩) rfl ?_
  · unfold execOp
    generalize a5.eval = ev at *
    go_simp
  obtain ⟨a6, qa6⟩ : ∃ z_, z_ = a5.put (some 114) (.slice (some ⟨go, 0, none⟩) (t + 1) (t + 1)) := ⟨_, rfl⟩
  have k6 : Ev.Stay [109, 110, 111, 112, 113, 114, 115, 116, 117, 118, 119, 120, 121, 122, 123, 124, 125, 126, 127, 128, 129, 130, 131] a a6 := by rw [qa6]; exact k5.put (by decide) _
  have e6_9 := Ev.oth qa6 (by decide) e5_9
  have e6_12 := Ev.oth qa6 (by decide) e5_12
  have e6_13 := Ev.oth qa6 (by decide) e5_13
  have e6_112 := Ev.oth qa6 (by decide) e5_112
  have e6_113 := Ev.oth qa6 (by decide) e5_113
  have e6_114 := Ev.sam qa6 (by rw [k5.1, hsz]; decide)
  rw [← qa6]
  clear qa6 e5_9 e5_12 e5_13 e5_112 e5_113
  refine pure_ (i := 6) (N := some 115) (v := .int .i64 ((r + 1 : Nat) : Int)) #[true, true, true, true, true, true, true, false, false, false, false, false, false, false, false, false, false, false, false, false, false, false, false, false] (Rg.of hops (Rg.atS (Rg.atS (Rg.atS (Rg.atS (Rg.atS (Rg.atS Rg.at0))))))) rfl (by kernel_rfl) (fun c _ _ h => hP c _ _ _ (by rfl) h) (Or.inl ⟨Ev.wanted rfl, fun w_ => ?_⟩) rfl ?_
  · unfold execOp
    generalize a6.eval = ev at *
    go_simp
  obtain ⟨a7, qa7⟩ : ∃ z_, z_ = a6.put (some 115) (.int .i64 ((r + 1 : Nat) : Int)) := ⟨_, rfl⟩
  have k7 : Ev.Stay [109, 110, 111, 112, 113, 114, 115, 116, 117, 118, 119, 120, 121, 122, 123, 124, 125, 126, 127, 128, 129, 130, 131] a a7 := by rw [qa7]; exact k6.put (by decide) _
  have e7_9 := Ev.oth qa7 (by decide) e6_9
  have e7_12 := Ev.oth qa7 (by decide) e6_12
  have e7_13 := Ev.oth qa7 (by decide) e6_13
  have e7_112 := Ev.oth qa7 (by decide) e6_112
  have e7_113 := Ev.oth qa7 (by decide) e6_113
  have e7_114 := Ev.oth qa7 (by decide) e6_114
  have e7_115 := Ev.sam qa7 (by rw [k6.1, hsz]; decide)
  rw [← qa7]
  clear qa7 e6_9 e6_12 e6_13 e6_112 e6_113 e6_114
  refine pure_ (i := 7) (N := some 116) (v := .int .i64 (r : Int)) #[true, true, true, true, true, true, true, true, false, false, false, false, false, false, false, false, false, false, false, false, false, false, false, false] (Rg.of hops (Rg.atS (Rg.atS (Rg.atS (Rg.atS (Rg.atS (Rg.atS (Rg.atS Rg.at0)))))))) rfl (by kernel_rfl) (fun c _ _ h => hP c _ _ _ (by rfl) h) (Or.inl ⟨Ev.wanted rfl, fun w_ => ?_⟩) rfl ?_
  · have ec0 : a7.eval (.const (.int .i64 (1))) = .int .i64 (1) := rfl
    have d_ : (r : Int) + 1 - 1 = (r : Int) := by omega
    have d2_ : IntKind.i64.wrap (r : Int) = (r : Int) := wr (by omega) (by omega)
    unfold execOp
    generalize a7.eval = ev at *
    (go_simp; try (exact wr (by omega) (by omega)))
  obtain ⟨a8, qa8⟩ : ∃ z_, z_ = a7.put (some 116) (.int .i64 (r : Int)) := ⟨_, rfl⟩
  have k8 : Ev.Stay [109, 110, 111, 112, 113, 114, 115, 116, 117, 118, 119, 120, 121, 122, 123, 124, 125, 126, 127, 128, 129, 130, 131] a a8 := by rw [qa8]; exact k7.put (by decide) _
  have e8_9 := Ev.oth qa8 (by decide) e7_9
  have e8_12 := Ev.oth qa8 (by decide) e7_12
  have e8_13 := Ev.oth qa8 (by decide) e7_13
  have e8_112 := Ev.oth qa8 (by decide) e7_112
  have e8_113 := Ev.oth qa8 (by decide) e7_113
  have e8_114 := Ev.oth qa8 (by decide) e7_114
  have e8_115 := Ev.oth qa8 (by decide) e7_115
  have e8_116 := Ev.sam qa8 (by rw [k7.1, hsz]; decide)
  rw [← qa8]
  clear qa8 e7_9 e7_12 e7_13 e7_112 e7_113 e7_114 e7_115
  clear e8_115
  refine pure_ (i := 8) (N := some 117) (v := .pointer (some ⟨go, r, none⟩)) #[true, true, true, true, true, true, true, true, true, false, false, false, false, false, false, false, false, false, false, false, false, false, false, false] (Rg.of hops (Rg.atS (Rg.atS (Rg.atS (Rg.atS (Rg.atS (Rg.atS (Rg.atS (Rg.atS Rg.at0))))))))) rfl (by kernel_rfl) (fun c _ _ h => hP c _ _ _ (by rfl) h) (Or.inl ⟨Ev.wanted rfl, fun w_ => ?_⟩) rfl ?_
  · have lk_ : (r : Int) < (t : Int) + 1 := by omega
    have lk0_ : (0 : Int) ≤ (r : Int) := by omega
    unfold execOp
    generalize a8.eval = ev at *
    go_simp
  obtain ⟨a9, qa9⟩ : ∃ z_, z_ = a8.put (some 117) (.pointer (some ⟨go, r, none⟩)) := ⟨_, rfl⟩
  have k9 : Ev.Stay [109, 110, 111, 112, 113, 114, 115, 116, 117, 118, 119, 120, 121, 122, 123, 124, 125, 126, 127, 128, 129, 130, 131] a a9 := by rw [qa9]; exact k8.put (by decide) _
  have e9_9 := Ev.oth qa9 (by decide) e8_9
  have e9_12 := Ev.oth qa9 (by decide) e8_12
  have e9_13 := Ev.oth qa9 (by decide) e8_13
  have e9_112 := Ev.oth qa9 (by decide) e8_112
  have e9_113 := Ev.oth qa9 (by decide) e8_113
  have e9_114 := Ev.oth qa9 (by decide) e8_114
  have e9_116 := Ev.oth qa9 (by decide) e8_116
  have e9_117 := Ev.sam qa9 (by rw [k8.1, hsz]; decide)
  rw [← qa9]
  clear qa9 e8_9 e8_12 e8_13 e8_112 e8_113 e8_114 e8_116
  clear e9_114
  clear e9_116
  refine take_ (i := 9) (N := some 118) (v := .slice (some ⟨gs (r), 0, none⟩) (t + 1) (t + 1)) #[true, true, true, true, true, true, true, true, true, true, false, false, false, false, false, false, false, false, false, false, false, false, false, false] (Rg.of hops (Rg.atS (Rg.atS (Rg.atS (Rg.atS (Rg.atS (Rg.atS (Rg.atS (Rg.atS (Rg.atS Rg.at0)))))))))) rfl (by kernel_rfl) (fun c _ _ h => hP c _ _ _ (by rfl) h) (Ev.loadW (Ev.wanted rfl) rfl e9_117 (fun w hw => Ev.load56 (hw.row (by omega)))) hHeld rfl ?_
  obtain ⟨a10, qa10⟩ : ∃ z_, z_ = a9.put (some 118) (.slice (some ⟨gs (r), 0, none⟩) (t + 1) (t + 1)) := ⟨_, rfl⟩
  have k10 : Ev.Stay [109, 110, 111, 112, 113, 114, 115, 116, 117, 118, 119, 120, 121, 122, 123, 124, 125, 126, 127, 128, 129, 130, 131] a a10 := by rw [qa10]; exact k9.put (by decide) _
  have e10_9 := Ev.oth qa10 (by decide) e9_9
  have e10_12 := Ev.oth qa10 (by decide) e9_12
  have e10_13 := Ev.oth qa10 (by decide) e9_13
  have e10_112 := Ev.oth qa10 (by decide) e9_112
  have e10_113 := Ev.oth qa10 (by decide) e9_113
  have e10_117 := Ev.oth qa10 (by decide) e9_117
  have e10_118 := Ev.sam qa10 (by rw [k9.1, hsz]; decide)
  rw [← qa10]
  clear qa10 e9_9 e9_12 e9_13 e9_112 e9_113 e9_117
  clear e10_117
  refine pure_ (i := 10) (N := some 119) (v := .int .i64 ((c + 1 : Nat) : Int)) #[true, true, true, true, true, true, true, true, true, true, true, false, false, false, false, false, false, false, false, false, false, false, false, false] (Rg.of hops (Rg.atS (Rg.atS (Rg.atS (Rg.atS (Rg.atS (Rg.atS (Rg.atS (Rg.atS (Rg.atS (Rg.atS Rg.at0))))))))))) rfl (by kernel_rfl) (fun c _ _ h => hP c _ _ _ (by rfl) h) (Or.inl ⟨Ev.wanted rfl, fun w_ => ?_⟩) rfl ?_
  · unfold execOp
    generalize a10.eval = ev at *
    go_simp
  obtain ⟨a11, qa11⟩ : ∃ z_, z_ = a10.put (some 119) (.int .i64 ((c + 1 : Nat) : Int)) := ⟨_, rfl⟩
  have k11 : Ev.Stay [109, 110, 111, 112, 113, 114, 115, 116, 117, 118, 119, 120, 121, 122, 123, 124, 125, 126, 127, 128, 129, 130, 131] a a11 := by rw [qa11]; exact k10.put (by decide) _
  have e11_9 := Ev.oth qa11 (by decide) e10_9
  have e11_12 := Ev.oth qa11 (by decide) e10_12
  have e11_13 := Ev.oth qa11 (by decide) e10_13
  have e11_112 := Ev.oth qa11 (by decide) e10_112
  have e11_113 := Ev.oth qa11 (by decide) e10_113
  have e11_118 := Ev.oth qa11 (by decide) e10_118
  have e11_119 := Ev.sam qa11 (by rw [k10.1, hsz]; decide)
  rw [← qa11]
  clear qa11 e10_9 e10_12 e10_13 e10_112 e10_113 e10_118
  refine pure_ (i := 11) (N := some 120) (v := .pointer (some ⟨gs (r), c + 1, none⟩)) #[true, true, true, true, true, true, true, true, true, true, true, true, false, false, false, false, false, false, false, false, false, false, false, false] (Rg.of hops (Rg.atS (Rg.atS (Rg.atS (Rg.atS (Rg.atS (Rg.atS (Rg.atS (Rg.atS (Rg.atS (Rg.atS (Rg.atS Rg.at0)))))))))))) rfl (by kernel_rfl) (fun c _ _ h => hP c _ _ _ (by rfl) h) (Or.inl ⟨Ev.wanted rfl, fun w_ => ?_⟩) rfl ?_
  · have lk_ : (c : Int) + 1 < (t : Int) + 1 := by omega
    have lk0_ : (0 : Int) ≤ (c : Int) + 1 := by omega
    have lk2_ : (c : Int) < (t : Int) := by omega
    unfold execOp
    generalize a11.eval = ev at *
    go_simp
  obtain ⟨a12, qa12⟩ : ∃ z_, z_ = a11.put (some 120) (.pointer (some ⟨gs (r), c + 1, none⟩)) := ⟨_, rfl⟩
  have k12 : Ev.Stay [109, 110, 111, 112, 113, 114, 115, 116, 117, 118, 119, 120, 121, 122, 123, 124, 125, 126, 127, 128, 129, 130, 131] a a12 := by rw [qa12]; exact k11.put (by decide) _
  have e12_9 := Ev.oth qa12 (by decide) e11_9
  have e12_12 := Ev.oth qa12 (by decide) e11_12
  have e12_13 := Ev.oth qa12 (by decide) e11_13
  have e12_112 := Ev.oth qa12 (by decide) e11_112
  have e12_113 := Ev.oth qa12 (by decide) e11_113
  have e12_118 := Ev.oth qa12 (by decide) e11_118
  have e12_119 := Ev.oth qa12 (by decide) e11_119
  have e12_120 := Ev.sam qa12 (by rw [k11.1, hsz]; decide)
  rw [← qa12]
  clear qa12 e11_9 e11_12 e11_13 e11_112 e11_113 e11_118 e11_119
  clear e12_118
  clear e12_119
  refine take_ (i := 12) (N := some 121) (v := .int .i64 (G (r) (c + 1))) #[true, true, true, true, true, true, true, true, true, true, true, true, true, false, false, false, false, false, false, false, false, false, false, false] (Rg.of hops (Rg.atS (Rg.atS (Rg.atS (Rg.atS (Rg.atS (Rg.atS (Rg.atS (Rg.atS (Rg.atS (Rg.atS (Rg.atS (Rg.atS Rg.at0))))))))))))) rfl (by kernel_rfl) (fun c _ _ h => hP c _ _ _ (by rfl) h) (Ev.loadW (Ev.wanted rfl) rfl e12_120 (fun w hw => Ev.load3 (hw.el (by omega) (by omega)))) hHeld rfl ?_
  obtain ⟨a13, qa13⟩ : ∃ z_, z_ = a12.put (some 121) (.int .i64 (G (r) (c + 1))) := ⟨_, rfl⟩
  have k13 : Ev.Stay [109, 110, 111, 112, 113, 114, 115, 116, 117, 118, 119, 120, 121, 122, 123, 124, 125, 126, 127, 128, 129, 130, 131] a a13 := by rw [qa13]; exact k12.put (by decide) _
  have e13_9 := Ev.oth qa13 (by decide) e12_9
  have e13_12 := Ev.oth qa13 (by decide) e12_12
  have e13_13 := Ev.oth qa13 (by decide) e12_13
  have e13_112 := Ev.oth qa13 (by decide) e12_112
  have e13_113 := Ev.oth qa13 (by decide) e12_113
  have e13_120 := Ev.oth qa13 (by decide) e12_120
  have e13_121 := Ev.sam qa13 (by rw [k12.1, hsz]; decide)
  rw [← qa13]
  clear qa13 e12_9 e12_12 e12_13 e12_112 e12_113 e12_120
  clear e13_120
  refine pure_ (i := 13) (N := some 122) (v := .slice (some ⟨go, 0, none⟩) (t + 1) (t + 1)) #[true, true, true, true, true, true, true, true, true, true, true, true, true, true, false, false, false, false, false, false, false, false, false, false] (Rg.of hops (Rg.atS (Rg.atS (Rg.atS (Rg.atS (Rg.atS (Rg.atS (Rg.atS (Rg.atS (Rg.atS (Rg.atS (Rg.atS (Rg.atS (Rg.atS Rg.at0)))))))))))))) rfl (by kernel_rfl) (fun c _ _ h => hP c _ _ _ (by rfl) h) (Or.inl ⟨Ev.wanted rfl, fun w_ => ?_⟩) rfl ?_
  · unfold execOp
    generalize a13.eval = ev at *
    go_simp
  obtain ⟨a14, qa14⟩ : ∃ z_, z_ = a13.put (some 122) (.slice (some ⟨go, 0, none⟩) (t + 1) (t + 1)) := ⟨_, rfl⟩
  have k14 : Ev.Stay [109, 110, 111, 112, 113, 114, 115, 116, 117, 118, 119, 120, 121, 122, 123, 124, 125, 126, 127, 128, 129, 130, 131] a a14 := by rw [qa14]; exact k13.put (by decide) _
  have e14_9 := Ev.oth qa14 (by decide) e13_9
  have e14_12 := Ev.oth qa14 (by decide) e13_12
  have e14_13 := Ev.oth qa14 (by decide) e13_13
  have e14_112 := Ev.oth qa14 (by decide) e13_112
  have e14_113 := Ev.oth qa14 (by decide) e13_113
  have e14_121 := Ev.oth qa14 (by decide) e13_121
  have e14_122 := Ev.sam qa14 (by rw [k13.1, hsz]; decide)
  rw [← qa14]
  clear qa14 e13_9 e13_12 e13_13 e13_112 e13_113 e13_121
  refine pure_ (i := 14) (N := some 123) (v := .int .i64 ((r + 1 : Nat) : Int)) #[true, true, true, true, true, true, true, true, true, true, true, true, true, true, true, false, false, false, false, false, false, false, false, false] (Rg.of hops (Rg.atS (Rg.atS (Rg.atS (Rg.atS (Rg.atS (Rg.atS (Rg.atS (Rg.atS (Rg.atS (Rg.atS (Rg.atS (Rg.atS (Rg.atS (Rg.atS Rg.at0))))))))))))))) rfl (by kernel_rfl) (fun c _ _ h => hP c _ _ _ (by rfl) h) (Or.inl ⟨Ev.wanted rfl, fun w_ => ?_⟩) rfl ?_
  · unfold execOp
    generalize a14.eval = ev at *
    go_simp
  obtain ⟨a15, qa15⟩ : ∃ z_, z_ = a14.put (some 123) (.int .i64 ((r + 1 : Nat) : Int)) := ⟨_, rfl⟩
  have k15 : Ev.Stay [109, 110, 111, 112, 113, 114, 115, 116, 117, 118, 119, 120, 121, 122, 123, 124, 125, 126, 127, 128, 129, 130, 131] a a15 := by rw [qa15]; exact k14.put (by decide) _
  have e15_9 := Ev.oth qa15 (by decide) e14_9
  have e15_12 := Ev.oth qa15 (by decide) e14_12
  have e15_13 := Ev.oth qa15 (by decide) e14_13
  have e15_112 := Ev.oth qa15 (by decide) e14_112
  have e15_113 := Ev.oth qa15 (by decide) e14_113
  have e15_121 := Ev.oth qa15 (by decide) e14_121
  have e15_122 := Ev.oth qa15 (by decide) e14_122
  have e15_123 := Ev.sam qa15 (by rw [k14.1, hsz]; decide)
  rw [← qa15]
  clear qa15 e14_9 e14_12 e14_13 e14_112 e14_113 e14_121 e14_122
  refine pure_ (i := 15) (N := some 124) (v := .pointer (some ⟨go, r + 1, none⟩)) #[true, true, true, true, true, true, true, true, true, true, true, true, true, true, true, true, false, false, false, false, false, false, false, false] (Rg.of hops (Rg.atS (Rg.atS (Rg.atS (Rg.atS (Rg.atS (Rg.atS (Rg.atS (Rg.atS (Rg.atS (Rg.atS (Rg.atS (Rg.atS (Rg.atS (Rg.atS (Rg.atS Rg.at0)))))))))))))))) rfl (by kernel_rfl) (fun c _ _ h => hP c _ _ _ (by rfl) h) (Or.inl ⟨Ev.wanted rfl, fun w_ => ?_⟩) rfl ?_
  · have lk_ : (r : Int) + 1 < (t : Int) + 1 := by omega
    have lk0_ : (0 : Int) ≤ (r : Int) + 1 := by omega
    have lk2_ : (r : Int) < (t : Int) := by omega
    unfold execOp
    generalize a15.eval = ev at *
    go_simp
  obtain ⟨a16, qa16⟩ : ∃ z_, z_ = a15.put (some 124) (.pointer (some ⟨go, r + 1, none⟩)) := ⟨_, rfl⟩
  have k16 : Ev.Stay [109, 110, 111, 112, 113, 114, 115, 116, 117, 118, 119, 120, 121, 122, 123, 124, 125, 126, 127, 128, 129, 130, 131] a a16 := by rw [qa16]; exact k15.put (by decide) _
  have e16_9 := Ev.oth qa16 (by decide) e15_9
  have e16_12 := Ev.oth qa16 (by decide) e15_12
  have e16_13 := Ev.oth qa16 (by decide) e15_13
  have e16_112 := Ev.oth qa16 (by decide) e15_112
  have e16_113 := Ev.oth qa16 (by decide) e15_113
  have e16_121 := Ev.oth qa16 (by decide) e15_121
  have e16_122 := Ev.oth qa16 (by decide) e15_122
  have e16_123 := Ev.oth qa16 (by decide) e15_123
  have e16_124 := Ev.sam qa16 (by rw [k15.1, hsz]; decide)
  rw [← qa16]
  clear qa16 e15_9 e15_12 e15_13 e15_112 e15_113 e15_121 e15_122 e15_123
  clear e16_122
  clear e16_123
  refine take_ (i := 16) (N := some 125) (v := .slice (some ⟨gs (r + 1), 0, none⟩) (t + 1) (t + 1)) #[true, true, true, true, true, true, true, true, true, true, true, true, true, true, true, true, true, false, false, false, false, false, false, false] (Rg.of hops (Rg.atS (Rg.atS (Rg.atS (Rg.atS (Rg.atS (Rg.atS (Rg.atS (Rg.atS (Rg.atS (Rg.atS (Rg.atS (Rg.atS (Rg.atS (Rg.atS (Rg.atS (Rg.atS Rg.at0))))))))))))))))) rfl (by kernel_rfl) (fun c _ _ h => hP c _ _ _ (by rfl) h) (Ev.loadW (Ev.wanted rfl) rfl e16_124 (fun w hw => Ev.load56 (hw.row (by omega)))) hHeld rfl ?_
  obtain ⟨a17, qa17⟩ : ∃ z_, z_ = a16.put (some 125) (.slice (some ⟨gs (r + 1), 0, none⟩) (t + 1) (t + 1)) := ⟨_, rfl⟩
  have k17 : Ev.Stay [109, 110, 111, 112, 113, 114, 115, 116, 117, 118, 119, 120, 121, 122, 123, 124, 125, 126, 127, 128, 129, 130, 131] a a17 := by rw [qa17]; exact k16.put (by decide) _
  have e17_9 := Ev.oth qa17 (by decide) e16_9
  have e17_12 := Ev.oth qa17 (by decide) e16_12
  have e17_13 := Ev.oth qa17 (by decide) e16_13
  have e17_112 := Ev.oth qa17 (by decide) e16_112
  have e17_113 := Ev.oth qa17 (by decide) e16_113
  have e17_121 := Ev.oth qa17 (by decide) e16_121
  have e17_124 := Ev.oth qa17 (by decide) e16_124
  have e17_125 := Ev.sam qa17 (by rw [k16.1, hsz]; decide)
  rw [← qa17]
  clear qa17 e16_9 e16_12 e16_13 e16_112 e16_113 e16_121 e16_124
  clear e17_124
  refine pure_ (i := 17) (N := some 126) (v := .int .i64 ((c + 1 : Nat) : Int)) #[true, true, true, true, true, true, true, true, true, true, true, true, true, true, true, true, true, true, false, false, false, false, false, false] (Rg.of hops (Rg.atS (Rg.atS (Rg.atS (Rg.atS (Rg.atS (Rg.atS (Rg.atS (Rg.atS (Rg.atS (Rg.atS (Rg.atS (Rg.atS (Rg.atS (Rg.atS (Rg.atS (Rg.atS (Rg.atS Rg.at0)))))))))))))))))) rfl (by kernel_rfl) (fun c _ _ h => hP c _ _ _ (by rfl) h) (Or.inl ⟨Ev.wanted rfl, fun w_ => ?_⟩) rfl ?_
  · unfold execOp
    generalize a17.eval = ev at *
    go_simp
  obtain ⟨a18, qa18⟩ : ∃ z_, z_ = a17.put (some 126) (.int .i64 ((c + 1 : Nat) : Int)) := ⟨_, rfl⟩
  have k18 : Ev.Stay [109, 110, 111, 112, 113, 114, 115, 116, 117, 118, 119, 120, 121, 122, 123, 124, 125, 126, 127, 128, 129, 130, 131] a a18 := by rw [qa18]; exact k17.put (by decide) _
  have e18_9 := Ev.oth qa18 (by decide) e17_9
  have e18_12 := Ev.oth qa18 (by decide) e17_12
  have e18_13 := Ev.oth qa18 (by decide) e17_13
  have e18_112 := Ev.oth qa18 (by decide) e17_112
  have e18_113 := Ev.oth qa18 (by decide) e17_113
  have e18_121 := Ev.oth qa18 (by decide) e17_121
  have e18_125 := Ev.oth qa18 (by decide) e17_125
  have e18_126 := Ev.sam qa18 (by rw [k17.1, hsz]; decide)
  rw [← qa18]
  clear qa18 e17_9 e17_12 e17_13 e17_112 e17_113 e17_121 e17_125
  refine pure_ (i := 18) (N := some 127) (v := .int .i64 (c : Int)) #[true, true, true, true, true, true, true, true, true, true, true, true, true, true, true, true, true, true, true, false, false, false, false, false] (Rg.of hops (Rg.atS (Rg.atS (Rg.atS (Rg.atS (Rg.atS (Rg.atS (Rg.atS (Rg.atS (Rg.atS (Rg.atS (Rg.atS (Rg.atS (Rg.atS (Rg.atS (Rg.atS (Rg.atS (Rg.atS (Rg.atS Rg.at0))))))))))))))))))) rfl (by kernel_rfl) (fun c _ _ h => hP c _ _ _ (by rfl) h) (Or.inl ⟨Ev.wanted rfl, fun w_ => ?_⟩) rfl ?_
  · have ec0 : a18.eval (.const (.int .i64 (1))) = .int .i64 (1) := rfl
    have d_ : (c : Int) + 1 - 1 = (c : Int) := by omega
    have d2_ : IntKind.i64.wrap (c : Int) = (c : Int) := wr (by omega) (by omega)
    unfold execOp
    generalize a18.eval = ev at *
    (go_simp; try (exact wr (by omega) (by omega)))
  obtain ⟨a19, qa19⟩ : ∃ z_, z_ = a18.put (some 127) (.int .i64 (c : Int)) := ⟨_, rfl⟩
  have k19 : Ev.Stay [109, 110, 111, 112, 113, 114, 115, 116, 117, 118, 119, 120, 121, 122, 123, 124, 125, 126, 127, 128, 129, 130, 131] a a19 := by rw [qa19]; exact k18.put (by decide) _
  have e19_9 := Ev.oth qa19 (by decide) e18_9
  have e19_12 := Ev.oth qa19 (by decide) e18_12
  have e19_13 := Ev.oth qa19 (by decide) e18_13
  have e19_112 := Ev.oth qa19 (by decide) e18_112
  have e19_113 := Ev.oth qa19 (by decide) e18_113
  have e19_121 := Ev.oth qa19 (by decide) e18_121
  have e19_125 := Ev.oth qa19 (by decide) e18_125
  have e19_126 := Ev.oth qa19 (by decide) e18_126
  have e19_127 := Ev.sam qa19 (by rw [k18.1, hsz]; decide)
  rw [← qa19]
  clear qa19 e18_9 e18_12 e18_13 e18_112 e18_113 e18_121 e18_125 e18_126
  clear e19_126
  refine pure_ (i := 19) (N := some 128) (v := .pointer (some ⟨gs (r + 1), c, none⟩)) #[true, true, true, true, true, true, true, true, true, true, true, true, true, true, true, true, true, true, true, true, false, false, false, false] (Rg.of hops (Rg.atS (Rg.atS (Rg.atS (Rg.atS (Rg.atS (Rg.atS (Rg.atS (Rg.atS (Rg.atS (Rg.atS (Rg.atS (Rg.atS (Rg.atS (Rg.atS (Rg.atS (Rg.atS (Rg.atS (Rg.atS (Rg.atS Rg.at0)))))))))))))))))))) rfl (by kernel_rfl) (fun c _ _ h => hP c _ _ _ (by rfl) h) (Or.inl ⟨Ev.wanted rfl, fun w_ => ?_⟩) rfl ?_
  · have lk_ : (c : Int) < (t : Int) + 1 := by omega
    have lk0_ : (0 : Int) ≤ (c : Int) := by omega
    unfold execOp
    generalize a19.eval = ev at *
    go_simp
  obtain ⟨a20, qa20⟩ : ∃ z_, z_ = a19.put (some 128) (.pointer (some ⟨gs (r + 1), c, none⟩)) := ⟨_, rfl⟩
  have k20 : Ev.Stay [109, 110, 111, 112, 113, 114, 115, 116, 117, 118, 119, 120, 121, 122, 123, 124, 125, 126, 127, 128, 129, 130, 131] a a20 := by rw [qa20]; exact k19.put (by decide) _
  have e20_9 := Ev.oth qa20 (by decide) e19_9
  have e20_12 := Ev.oth qa20 (by decide) e19_12
  have e20_13 := Ev.oth qa20 (by decide) e19_13
  have e20_112 := Ev.oth qa20 (by decide) e19_112
  have e20_113 := Ev.oth qa20 (by decide) e19_113
  have e20_121 := Ev.oth qa20 (by decide) e19_121
  have e20_125 := Ev.oth qa20 (by decide) e19_125
  have e20_127 := Ev.oth qa20 (by decide) e19_127
  have e20_128 := Ev.sam qa20 (by rw [k19.1, hsz]; decide)
  rw [← qa20]
  clear qa20 e19_9 e19_12 e19_13 e19_112 e19_113 e19_121 e19_125 e19_127
  clear e20_125
  clear e20_127
  refine take_ (i := 20) (N := some 129) (v := .int .i64 (G (r + 1) (c))) #[true, true, true, true, true, true, true, true, true, true, true, true, true, true, true, true, true, true, true, true, true, false, false, false] (Rg.of hops (Rg.atS (Rg.atS (Rg.atS (Rg.atS (Rg.atS (Rg.atS (Rg.atS (Rg.atS (Rg.atS (Rg.atS (Rg.atS (Rg.atS (Rg.atS (Rg.atS (Rg.atS (Rg.atS (Rg.atS (Rg.atS (Rg.atS (Rg.atS Rg.at0))))))))))))))))))))) rfl (by kernel_rfl) (fun c _ _ h => hP c _ _ _ (by rfl) h) (Ev.loadW (Ev.wanted rfl) rfl e20_128 (fun w hw => Ev.load3 (hw.el (by omega) (by omega)))) hHeld rfl ?_
  obtain ⟨a21, qa21⟩ : ∃ z_, z_ = a20.put (some 129) (.int .i64 (G (r + 1) (c))) := ⟨_, rfl⟩
  have k21 : Ev.Stay [109, 110, 111, 112, 113, 114, 115, 116, 117, 118, 119, 120, 121, 122, 123, 124, 125, 126, 127, 128, 129, 130, 131] a a21 := by rw [qa21]; exact k20.put (by decide) _
  have e21_9 := Ev.oth qa21 (by decide) e20_9
  have e21_12 := Ev.oth qa21 (by decide) e20_12
  have e21_13 := Ev.oth qa21 (by decide) e20_13
  have e21_112 := Ev.oth qa21 (by decide) e20_112
  have e21_113 := Ev.oth qa21 (by decide) e20_113
  have e21_121 := Ev.oth qa21 (by decide) e20_121
  have e21_128 := Ev.oth qa21 (by decide) e20_128
  have e21_129 := Ev.sam qa21 (by rw [k20.1, hsz]; decide)
  rw [← qa21]
  clear qa21 e20_9 e20_12 e20_13 e20_112 e20_113 e20_121 e20_128
  clear e21_128
  refine pure_ (i := 21) (N := some 130) (v := .int .i64 (if G r (c + 1) < G (r + 1) c then G (r + 1) c else G r (c + 1))) #[true, true, true, true, true, true, true, true, true, true, true, true, true, true, true, true, true, true, true, true, true, true, false, false] (Rg.of hops (Rg.atS (Rg.atS (Rg.atS (Rg.atS (Rg.atS (Rg.atS (Rg.atS (Rg.atS (Rg.atS (Rg.atS (Rg.atS (Rg.atS (Rg.atS (Rg.atS (Rg.atS (Rg.atS (Rg.atS (Rg.atS (Rg.atS (Rg.atS (Rg.atS Rg.at0)))))))))))))))))))))) rfl (by kernel_rfl) (fun c _ _ h => hP c _ _ _ (by rfl) h) (Or.inl ⟨Ev.wanted rfl, fun w_ => ?_⟩) rfl ?_
  · unfold execOp
    generalize a21.eval = ev at *
    go_simp
  obtain ⟨a22, qa22⟩ : ∃ z_, z_ = a21.put (some 130) (.int .i64 (if G r (c + 1) < G (r + 1) c then G (r + 1) c else G r (c + 1))) := ⟨_, rfl⟩
  have k22 : Ev.Stay [109, 110, 111, 112, 113, 114, 115, 116, 117, 118, 119, 120, 121, 122, 123, 124, 125, 126, 127, 128, 129, 130, 131] a a22 := by rw [qa22]; exact k21.put (by decide) _
  have e22_9 := Ev.oth qa22 (by decide) e21_9
  have e22_12 := Ev.oth qa22 (by decide) e21_12
  have e22_13 := Ev.oth qa22 (by decide) e21_13
  have e22_112 := Ev.oth qa22 (by decide) e21_112
  have e22_113 := Ev.oth qa22 (by decide) e21_113
  have e22_121 := Ev.oth qa22 (by decide) e21_121
  have e22_129 := Ev.oth qa22 (by decide) e21_129
  have e22_130 := Ev.sam qa22 (by rw [k21.1, hsz]; decide)
  rw [← qa22]
  clear qa22 e21_9 e21_12 e21_13 e21_112 e21_113 e21_121 e21_129
  clear e22_121
  clear e22_129
  refine pure_ (i := 22) (N := some 131) (v := .pointer (some ⟨gs (r + 1), c + 1, none⟩)) #[true, true, true, true, true, true, true, true, true, true, true, true, true, true, true, true, true, true, true, true, true, true, true, false] (Rg.of hops (Rg.atS (Rg.atS (Rg.atS (Rg.atS (Rg.atS (Rg.atS (Rg.atS (Rg.atS (Rg.atS (Rg.atS (Rg.atS (Rg.atS (Rg.atS (Rg.atS (Rg.atS (Rg.atS (Rg.atS (Rg.atS (Rg.atS (Rg.atS (Rg.atS (Rg.atS Rg.at0))))))))))))))))))))))) rfl (by kernel_rfl) (fun c _ _ h => hP c _ _ _ (by rfl) h) (Or.inl ⟨Ev.wanted rfl, fun w_ => ?_⟩) rfl ?_
  · have lk_ : (c : Int) + 1 < (t : Int) + 1 := by omega
    have lk0_ : (0 : Int) ≤ (c : Int) + 1 := by omega
    have lk2_ : (c : Int) < (t : Int) := by omega
    unfold execOp
    generalize a22.eval = ev at *
    go_simp
  obtain ⟨a23, qa23⟩ : ∃ z_, z_ = a22.put (some 131) (.pointer (some ⟨gs (r + 1), c + 1, none⟩)) := ⟨_, rfl⟩
  have k23 : Ev.Stay [109, 110, 111, 112, 113, 114, 115, 116, 117, 118, 119, 120, 121, 122, 123, 124, 125, 126, 127, 128, 129, 130, 131] a a23 := by rw [qa23]; exact k22.put (by decide) _
  have e23_9 := Ev.oth qa23 (by decide) e22_9
  have e23_12 := Ev.oth qa23 (by decide) e22_12
  have e23_13 := Ev.oth qa23 (by decide) e22_13
  have e23_112 := Ev.oth qa23 (by decide) e22_112
  have e23_113 := Ev.oth qa23 (by decide) e22_113
  have e23_130 := Ev.oth qa23 (by decide) e22_130
  have e23_131 := Ev.sam qa23 (by rw [k22.1, hsz]; decide)
  rw [← qa23]
  clear qa23 e22_9 e22_12 e22_13 e22_112 e22_113 e22_130
  clear e23_112
  clear e23_113
  refine last_ (i := 23) (N := none) #[true, true, true, true, true, true, true, true, true, true, true, true, true, true, true, true, true, true, true, true, true, true, true, true] (Rg.of hops (Rg.atS (Rg.atS (Rg.atS (Rg.atS (Rg.atS (Rg.atS (Rg.atS (Rg.atS (Rg.atS (Rg.atS (Rg.atS (Rg.atS (Rg.atS (Rg.atS (Rg.atS (Rg.atS (Rg.atS (Rg.atS (Rg.atS (Rg.atS (Rg.atS (Rg.atS (Rg.atS Rg.at0)))))))))))))))))))))))) rfl (by kernel_rfl) (by decide) (fun K hK => ?_)
  rw [if_pos (Ev.wanted rfl)]
  refine Ev.store rfl rfl e23_131 e23_130 (Ev.store3 (hHeld.el (by omega) (by omega)) (hHeld.fr (by omega))) ?_
  refine hK.out _ _ ?_
  refine done_ (by kernel_rfl) ?_
  exact hQ _ k23
set_option maxHeartbeats 2000000 in
theorem Rg.u0 {id : Nat} {Q : Exit → Act → World → Prop} {a : Act} {W : World} 
    (hsz : a.tmps.size = 133)  
    (hQ : ∀ a', Ev.Stay [8] a a' → Q .normal a' (W)) : (Code.region id (Rf.ops 19 0) false).wp Try.prog Q a W := by
  refine wp_region_list ?_
  show wpList _ _ _ (_ :: []) _ _
  have k0 : Ev.Stay [8] a a := Ev.Stay.refl [8] a
  refine Ev.pv (N := 8) (v := .slice none 0 0) (W' := W) ?_ rfl rfl ?_
  · have ec0 : a.eval (.const (.slice none 0 0)) = .slice none 0 0 := rfl
    unfold execOp
    generalize a.eval = ev at *
    go_simp
  obtain ⟨a1, qa1⟩ : ∃ z_, z_ = a.put (some 8) (.slice none 0 0) := ⟨_, rfl⟩
  have k1 : Ev.Stay [8] a a1 := by rw [qa1]; exact k0.put (by decide) _
  have e1_8 := Ev.sam qa1 (by rw [k0.1, hsz]; decide)
  rw [← qa1]
  clear qa1 
  exact hQ _ k1 
set_option maxHeartbeats 2000000 in
theorem Rg.u1 {id : Nat} {Q : Exit → Act → World → Prop} {a : Act} {W : World} {t : Nat}
    (hsz : a.tmps.size = 133)  (h0 : a.eval (.tmp 0) = .int .i64 (t : Int)) (ht : t ≤ 3)
    (hQ : ∀ a', Ev.Stay [9, 14, 15, 16] a a' → a'.eval (.tmp 9) = .slice (some ⟨W.heap.size, 0, none⟩) (t + 1) (t + 1) → Q .normal a' (W.alloc (.cells (rowsP (t + 1) 0 (fun _ => 0)) 56))) : (Code.region id (Rf.ops 19 1) false).wp Try.prog Q a W := by
  refine wp_region_list ?_
  show wpList _ _ _ (_ :: _ :: _ :: _ :: []) _ _
  have k0 : Ev.Stay [9, 14, 15, 16] a a := Ev.Stay.refl [9, 14, 15, 16] a
  refine Ev.pv (N := 14) (v := .int .i64 (t : Int)) (W' := W) ?_ rfl rfl ?_
  · unfold execOp
    generalize a.eval = ev at *
    go_simp
  obtain ⟨a1, qa1⟩ : ∃ z_, z_ = a.put (some 14) (.int .i64 (t : Int)) := ⟨_, rfl⟩
  have k1 : Ev.Stay [9, 14, 15, 16] a a1 := by rw [qa1]; exact k0.put (by decide) _
  have e1_0 := Ev.oth qa1 (by decide) h0
  have e1_14 := Ev.sam qa1 (by rw [k0.1, hsz]; decide)
  rw [← qa1]
  clear qa1 
  refine Ev.pv (N := 15) (v := .int .i64 ((t + 1 : Nat) : Int)) (W' := W) ?_ rfl rfl ?_
  · have ec0 : a1.eval (.const (.int .i64 (1))) = .int .i64 (1) := rfl
    unfold execOp
    generalize a1.eval = ev at *
    (go_simp; exact wr (by omega) (by omega))
  obtain ⟨a2, qa2⟩ : ∃ z_, z_ = a1.put (some 15) (.int .i64 ((t + 1 : Nat) : Int)) := ⟨_, rfl⟩
  have k2 : Ev.Stay [9, 14, 15, 16] a a2 := by rw [qa2]; exact k1.put (by decide) _
  have e2_0 := Ev.oth qa2 (by decide) e1_0
  have e2_14 := Ev.oth qa2 (by decide) e1_14
  have e2_15 := Ev.sam qa2 (by rw [k1.1, hsz]; decide)
  rw [← qa2]
  clear qa2 e1_0 e1_14
  clear e2_14
  refine Ev.pv (N := 16) (v := .slice (some ⟨W.heap.size, 0, none⟩) (t + 1) (t + 1)) (W' := W.alloc (.cells (rowsP (t + 1) 0 (fun _ => 0)) 56)) ?_ rfl rfl ?_
  · have hm_ := run_rows W (t + 1) (by omega)
    have hc_ : ((t + 1 : Nat) : Int) = (t : Int) + 1 := by omega
    rw [hc_] at hm_
    clear hc_
    unfold execOp
    generalize a2.eval = ev at *
    go_simp
  obtain ⟨a3, qa3⟩ : ∃ z_, z_ = a2.put (some 16) (.slice (some ⟨W.heap.size, 0, none⟩) (t + 1) (t + 1)) := ⟨_, rfl⟩
  have k3 : Ev.Stay [9, 14, 15, 16] a a3 := by rw [qa3]; exact k2.put (by decide) _
  have e3_0 := Ev.oth qa3 (by decide) e2_0
  have e3_15 := Ev.oth qa3 (by decide) e2_15
  have e3_16 := Ev.sam qa3 (by rw [k2.1, hsz]; decide)
  rw [← qa3]
  clear qa3 e2_0 e2_15
  clear e3_15
  refine Ev.pv (N := 9) (v := .slice (some ⟨W.heap.size, 0, none⟩) (t + 1) (t + 1)) (W' := W.alloc (.cells (rowsP (t + 1) 0 (fun _ => 0)) 56)) ?_ rfl rfl ?_
  · unfold execOp
    generalize a3.eval = ev at *
    go_simp
  obtain ⟨a4, qa4⟩ : ∃ z_, z_ = a3.put (some 9) (.slice (some ⟨W.heap.size, 0, none⟩) (t + 1) (t + 1)) := ⟨_, rfl⟩
  have k4 : Ev.Stay [9, 14, 15, 16] a a4 := by rw [qa4]; exact k3.put (by decide) _
  have e4_0 := Ev.oth qa4 (by decide) e3_0
  have e4_16 := Ev.oth qa4 (by decide) e3_16
  have e4_9 := Ev.sam qa4 (by rw [k3.1, hsz]; decide)
  rw [← qa4]
  clear qa4 e3_0 e3_16
  exact hQ _ k4 e4_9
set_option maxHeartbeats 2000000 in
theorem Rg.u2 {id : Nat} {Q : Exit → Act → World → Prop} {a : Act} {W : World} 
    (hsz : a.tmps.size = 133)  
    (hQ : ∀ a', Ev.Stay [10] a a' → a'.eval (.tmp 10) = .int .i64 (0) → Q .normal a' (W)) : (Code.region id (Rf.ops 19 2) false).wp Try.prog Q a W := by
  refine wp_region_list ?_
  show wpList _ _ _ (_ :: []) _ _
  have k0 : Ev.Stay [10] a a := Ev.Stay.refl [10] a
  refine Ev.pv (N := 10) (v := .int .i64 (0)) (W' := W) ?_ rfl rfl ?_
  · have ec0 : a.eval (.const (.int .i64 (0))) = .int .i64 (0) := rfl
    unfold execOp
    generalize a.eval = ev at *
    go_simp
  obtain ⟨a1, qa1⟩ : ∃ z_, z_ = a.put (some 10) (.int .i64 (0)) := ⟨_, rfl⟩
  have k1 : Ev.Stay [10] a a1 := by rw [qa1]; exact k0.put (by decide) _
  have e1_10 := Ev.sam qa1 (by rw [k0.1, hsz]; decide)
  rw [← qa1]
  clear qa1 
  exact hQ _ k1 e1_10
set_option maxHeartbeats 2000000 in
theorem Rg.u6 {id : Nat} {Q : Exit → Act → World → Prop} {a : Act} {W : World} 
    (hsz : a.tmps.size = 133)  
    (hQ : ∀ a', Ev.Stay [11] a a' → a'.eval (.tmp 11) = .int .i64 (1) → Q .normal a' (W)) : (Code.region id (Rf.ops 19 6) false).wp Try.prog Q a W := by
  refine wp_region_list ?_
  show wpList _ _ _ (_ :: []) _ _
  have k0 : Ev.Stay [11] a a := Ev.Stay.refl [11] a
  refine Ev.pv (N := 11) (v := .int .i64 (1)) (W' := W) ?_ rfl rfl ?_
  · have ec0 : a.eval (.const (.int .i64 (1))) = .int .i64 (1) := rfl
    unfold execOp
    generalize a.eval = ev at *
    go_simp
  obtain ⟨a1, qa1⟩ : ∃ z_, z_ = a.put (some 11) (.int .i64 (1)) := ⟨_, rfl⟩
  have k1 : Ev.Stay [11] a a1 := by rw [qa1]; exact k0.put (by decide) _
  have e1_11 := Ev.sam qa1 (by rw [k0.1, hsz]; decide)
  rw [← qa1]
  clear qa1 
  exact hQ _ k1 e1_11
set_option maxHeartbeats 2000000 in
theorem Rg.u11 {id : Nat} {Q : Exit → Act → World → Prop} {a : Act} {W : World} 
    (hsz : a.tmps.size = 133)  
    (hQ : ∀ a', Ev.Stay [12] a a' → a'.eval (.tmp 12) = .int .i64 (1) → Q .normal a' (W)) : (Code.region id (Rf.ops 19 11) false).wp Try.prog Q a W := by
  refine wp_region_list ?_
  show wpList _ _ _ (_ :: []) _ _
  have k0 : Ev.Stay [12] a a := Ev.Stay.refl [12] a
  refine Ev.pv (N := 12) (v := .int .i64 (1)) (W' := W) ?_ rfl rfl ?_
  · have ec0 : a.eval (.const (.int .i64 (1))) = .int .i64 (1) := rfl
    unfold execOp
    generalize a.eval = ev at *
    go_simp
  obtain ⟨a1, qa1⟩ : ∃ z_, z_ = a.put (some 12) (.int .i64 (1)) := ⟨_, rfl⟩
  have k1 : Ev.Stay [12] a a1 := by rw [qa1]; exact k0.put (by decide) _
  have e1_12 := Ev.sam qa1 (by rw [k0.1, hsz]; decide)
  rw [← qa1]
  clear qa1 
  exact hQ _ k1 e1_12
set_option maxHeartbeats 2000000 in
theorem Rg.u14 {id : Nat} {Q : Exit → Act → World → Prop} {a : Act} {W : World} 
    (hsz : a.tmps.size = 133)  
    (hQ : ∀ a', Ev.Stay [13] a a' → a'.eval (.tmp 13) = .int .i64 (1) → Q .normal a' (W)) : (Code.region id (Rf.ops 19 14) false).wp Try.prog Q a W := by
  refine wp_region_list ?_
  show wpList _ _ _ (_ :: []) _ _
  have k0 : Ev.Stay [13] a a := Ev.Stay.refl [13] a
  refine Ev.pv (N := 13) (v := .int .i64 (1)) (W' := W) ?_ rfl rfl ?_
  · have ec0 : a.eval (.const (.int .i64 (1))) = .int .i64 (1) := rfl
    unfold execOp
    generalize a.eval = ev at *
    go_simp
  obtain ⟨a1, qa1⟩ : ∃ z_, z_ = a.put (some 13) (.int .i64 (1)) := ⟨_, rfl⟩
  have k1 : Ev.Stay [13] a a1 := by rw [qa1]; exact k0.put (by decide) _
  have e1_13 := Ev.sam qa1 (by rw [k0.1, hsz]; decide)
  rw [← qa1]
  clear qa1 
  exact hQ _ k1 e1_13
set_option maxHeartbeats 2000000 in
theorem Rg.u3 {id : Nat} {Q : Exit → Act → World → Prop} {a : Act} {W : World} {k t : Nat}
    (hsz : a.tmps.size = 133)  (h10 : a.eval (.tmp 10) = .int .i64 (k : Int)) (h0 : a.eval (.tmp 0) = .int .i64 (t : Int))
    (hQ : ∀ a', Ev.Stay [17, 18, 19] a a' → a'.eval (.tmp 19) = .bool (decide (k ≤ t)) → Q .normal a' (W)) : (Code.region id (Rf.ops 19 3) false).wp Try.prog Q a W := by
  refine wp_region_list ?_
  show wpList _ _ _ (_ :: _ :: _ :: []) _ _
  have k0 : Ev.Stay [17, 18, 19] a a := Ev.Stay.refl [17, 18, 19] a
  refine Ev.pv (N := 17) (v := .int .i64 (k : Int)) (W' := W) ?_ rfl rfl ?_
  · unfold execOp
    generalize a.eval = ev at *
    go_simp
  obtain ⟨a1, qa1⟩ : ∃ z_, z_ = a.put (some 17) (.int .i64 (k : Int)) := ⟨_, rfl⟩
  have k1 : Ev.Stay [17, 18, 19] a a1 := by rw [qa1]; exact k0.put (by decide) _
  have e1_10 := Ev.oth qa1 (by decide) h10
  have e1_0 := Ev.oth qa1 (by decide) h0
  have e1_17 := Ev.sam qa1 (by rw [k0.1, hsz]; decide)
  rw [← qa1]
  clear qa1 
  refine Ev.pv (N := 18) (v := .int .i64 (t : Int)) (W' := W) ?_ rfl rfl ?_
  · unfold execOp
    generalize a1.eval = ev at *
    go_simp
  obtain ⟨a2, qa2⟩ : ∃ z_, z_ = a1.put (some 18) (.int .i64 (t : Int)) := ⟨_, rfl⟩
  have k2 : Ev.Stay [17, 18, 19] a a2 := by rw [qa2]; exact k1.put (by decide) _
  have e2_10 := Ev.oth qa2 (by decide) e1_10
  have e2_0 := Ev.oth qa2 (by decide) e1_0
  have e2_17 := Ev.oth qa2 (by decide) e1_17
  have e2_18 := Ev.sam qa2 (by rw [k1.1, hsz]; decide)
  rw [← qa2]
  clear qa2 e1_10 e1_0 e1_17
  refine Ev.pv (N := 19) (v := .bool (decide (k ≤ t))) (W' := W) ?_ rfl rfl ?_
  · unfold execOp
    generalize a2.eval = ev at *
    (go_simp; try (rw [Bool.eq_iff_iff]; simp))
  obtain ⟨a3, qa3⟩ : ∃ z_, z_ = a2.put (some 19) (.bool (decide (k ≤ t))) := ⟨_, rfl⟩
  have k3 : Ev.Stay [17, 18, 19] a a3 := by rw [qa3]; exact k2.put (by decide) _
  have e3_10 := Ev.oth qa3 (by decide) e2_10
  have e3_0 := Ev.oth qa3 (by decide) e2_0
  have e3_17 := Ev.oth qa3 (by decide) e2_17
  have e3_18 := Ev.oth qa3 (by decide) e2_18
  have e3_19 := Ev.sam qa3 (by rw [k2.1, hsz]; decide)
  rw [← qa3]
  clear qa3 e2_10 e2_0 e2_17 e2_18
  exact hQ _ k3 e3_19
set_option maxHeartbeats 2000000 in
theorem Rg.u7 {id : Nat} {Q : Exit → Act → World → Prop} {a : Act} {W : World} {k t : Nat}
    (hsz : a.tmps.size = 133)  (h11 : a.eval (.tmp 11) = .int .i64 (k : Int)) (h0 : a.eval (.tmp 0) = .int .i64 (t : Int))
    (hQ : ∀ a', Ev.Stay [28, 29, 30] a a' → a'.eval (.tmp 30) = .bool (decide (k ≤ t)) → Q .normal a' (W)) : (Code.region id (Rf.ops 19 7) false).wp Try.prog Q a W := by
  refine wp_region_list ?_
  show wpList _ _ _ (_ :: _ :: _ :: []) _ _
  have k0 : Ev.Stay [28, 29, 30] a a := Ev.Stay.refl [28, 29, 30] a
  refine Ev.pv (N := 28) (v := .int .i64 (k : Int)) (W' := W) ?_ rfl rfl ?_
  · unfold execOp
    generalize a.eval = ev at *
    go_simp
  obtain ⟨a1, qa1⟩ : ∃ z_, z_ = a.put (some 28) (.int .i64 (k : Int)) := ⟨_, rfl⟩
  have k1 : Ev.Stay [28, 29, 30] a a1 := by rw [qa1]; exact k0.put (by decide) _
  have e1_11 := Ev.oth qa1 (by decide) h11
  have e1_0 := Ev.oth qa1 (by decide) h0
  have e1_28 := Ev.sam qa1 (by rw [k0.1, hsz]; decide)
  rw [← qa1]
  clear qa1 
  refine Ev.pv (N := 29) (v := .int .i64 (t : Int)) (W' := W) ?_ rfl rfl ?_
  · unfold execOp
    generalize a1.eval = ev at *
    go_simp
  obtain ⟨a2, qa2⟩ : ∃ z_, z_ = a1.put (some 29) (.int .i64 (t : Int)) := ⟨_, rfl⟩
  have k2 : Ev.Stay [28, 29, 30] a a2 := by rw [qa2]; exact k1.put (by decide) _
  have e2_11 := Ev.oth qa2 (by decide) e1_11
  have e2_0 := Ev.oth qa2 (by decide) e1_0
  have e2_28 := Ev.oth qa2 (by decide) e1_28
  have e2_29 := Ev.sam qa2 (by rw [k1.1, hsz]; decide)
  rw [← qa2]
  clear qa2 e1_11 e1_0 e1_28
  refine Ev.pv (N := 30) (v := .bool (decide (k ≤ t))) (W' := W) ?_ rfl rfl ?_
  · unfold execOp
    generalize a2.eval = ev at *
    (go_simp; try (rw [Bool.eq_iff_iff]; simp))
  obtain ⟨a3, qa3⟩ : ∃ z_, z_ = a2.put (some 30) (.bool (decide (k ≤ t))) := ⟨_, rfl⟩
  have k3 : Ev.Stay [28, 29, 30] a a3 := by rw [qa3]; exact k2.put (by decide) _
  have e3_11 := Ev.oth qa3 (by decide) e2_11
  have e3_0 := Ev.oth qa3 (by decide) e2_0
  have e3_28 := Ev.oth qa3 (by decide) e2_28
  have e3_29 := Ev.oth qa3 (by decide) e2_29
  have e3_30 := Ev.sam qa3 (by rw [k2.1, hsz]; decide)
  rw [← qa3]
  clear qa3 e2_11 e2_0 e2_28 e2_29
  exact hQ _ k3 e3_30
set_option maxHeartbeats 2000000 in
theorem Rg.u12 {id : Nat} {Q : Exit → Act → World → Prop} {a : Act} {W : World} {k t : Nat}
    (hsz : a.tmps.size = 133)  (h12 : a.eval (.tmp 12) = .int .i64 (k : Int)) (h0 : a.eval (.tmp 0) = .int .i64 (t : Int))
    (hQ : ∀ a', Ev.Stay [71, 72, 73] a a' → a'.eval (.tmp 73) = .bool (decide (k ≤ t)) → Q .normal a' (W)) : (Code.region id (Rf.ops 19 12) false).wp Try.prog Q a W := by
  refine wp_region_list ?_
  show wpList _ _ _ (_ :: _ :: _ :: []) _ _
  have k0 : Ev.Stay [71, 72, 73] a a := Ev.Stay.refl [71, 72, 73] a
  refine Ev.pv (N := 71) (v := .int .i64 (k : Int)) (W' := W) ?_ rfl rfl ?_
  · unfold execOp
    generalize a.eval = ev at *
    go_simp
  obtain ⟨a1, qa1⟩ : ∃ z_, z_ = a.put (some 71) (.int .i64 (k : Int)) := ⟨_, rfl⟩
  have k1 : Ev.Stay [71, 72, 73] a a1 := by rw [qa1]; exact k0.put (by decide) _
  have e1_12 := Ev.oth qa1 (by decide) h12
  have e1_0 := Ev.oth qa1 (by decide) h0
  have e1_71 := Ev.sam qa1 (by rw [k0.1, hsz]; decide)
  rw [← qa1]
  clear qa1 
  refine Ev.pv (N := 72) (v := .int .i64 (t : Int)) (W' := W) ?_ rfl rfl ?_
  · unfold execOp
    generalize a1.eval = ev at *
    go_simp
  obtain ⟨a2, qa2⟩ : ∃ z_, z_ = a1.put (some 72) (.int .i64 (t : Int)) := ⟨_, rfl⟩
  have k2 : Ev.Stay [71, 72, 73] a a2 := by rw [qa2]; exact k1.put (by decide) _
  have e2_12 := Ev.oth qa2 (by decide) e1_12
  have e2_0 := Ev.oth qa2 (by decide) e1_0
  have e2_71 := Ev.oth qa2 (by decide) e1_71
  have e2_72 := Ev.sam qa2 (by rw [k1.1, hsz]; decide)
  rw [← qa2]
  clear qa2 e1_12 e1_0 e1_71
  refine Ev.pv (N := 73) (v := .bool (decide (k ≤ t))) (W' := W) ?_ rfl rfl ?_
  · unfold execOp
    generalize a2.eval = ev at *
    (go_simp; try (rw [Bool.eq_iff_iff]; simp))
  obtain ⟨a3, qa3⟩ : ∃ z_, z_ = a2.put (some 73) (.bool (decide (k ≤ t))) := ⟨_, rfl⟩
  have k3 : Ev.Stay [71, 72, 73] a a3 := by rw [qa3]; exact k2.put (by decide) _
  have e3_12 := Ev.oth qa3 (by decide) e2_12
  have e3_0 := Ev.oth qa3 (by decide) e2_0
  have e3_71 := Ev.oth qa3 (by decide) e2_71
  have e3_72 := Ev.oth qa3 (by decide) e2_72
  have e3_73 := Ev.sam qa3 (by rw [k2.1, hsz]; decide)
  rw [← qa3]
  clear qa3 e2_12 e2_0 e2_71 e2_72
  exact hQ _ k3 e3_73
set_option maxHeartbeats 2000000 in
theorem Rg.u15 {id : Nat} {Q : Exit → Act → World → Prop} {a : Act} {W : World} {k t : Nat}
    (hsz : a.tmps.size = 133)  (h13 : a.eval (.tmp 13) = .int .i64 (k : Int)) (h0 : a.eval (.tmp 0) = .int .i64 (t : Int))
    (hQ : ∀ a', Ev.Stay [76, 77, 78] a a' → a'.eval (.tmp 78) = .bool (decide (k ≤ t)) → Q .normal a' (W)) : (Code.region id (Rf.ops 19 15) false).wp Try.prog Q a W := by
  refine wp_region_list ?_
  show wpList _ _ _ (_ :: _ :: _ :: []) _ _
  have k0 : Ev.Stay [76, 77, 78] a a := Ev.Stay.refl [76, 77, 78] a
  refine Ev.pv (N := 76) (v := .int .i64 (k : Int)) (W' := W) ?_ rfl rfl ?_
  · unfold execOp
    generalize a.eval = ev at *
    go_simp
  obtain ⟨a1, qa1⟩ : ∃ z_, z_ = a.put (some 76) (.int .i64 (k : Int)) := ⟨_, rfl⟩
  have k1 : Ev.Stay [76, 77, 78] a a1 := by rw [qa1]; exact k0.put (by decide) _
  have e1_13 := Ev.oth qa1 (by decide) h13
  have e1_0 := Ev.oth qa1 (by decide) h0
  have e1_76 := Ev.sam qa1 (by rw [k0.1, hsz]; decide)
  rw [← qa1]
  clear qa1 
  refine Ev.pv (N := 77) (v := .int .i64 (t : Int)) (W' := W) ?_ rfl rfl ?_
  · unfold execOp
    generalize a1.eval = ev at *
    go_simp
  obtain ⟨a2, qa2⟩ : ∃ z_, z_ = a1.put (some 77) (.int .i64 (t : Int)) := ⟨_, rfl⟩
  have k2 : Ev.Stay [76, 77, 78] a a2 := by rw [qa2]; exact k1.put (by decide) _
  have e2_13 := Ev.oth qa2 (by decide) e1_13
  have e2_0 := Ev.oth qa2 (by decide) e1_0
  have e2_76 := Ev.oth qa2 (by decide) e1_76
  have e2_77 := Ev.sam qa2 (by rw [k1.1, hsz]; decide)
  rw [← qa2]
  clear qa2 e1_13 e1_0 e1_76
  refine Ev.pv (N := 78) (v := .bool (decide (k ≤ t))) (W' := W) ?_ rfl rfl ?_
  · unfold execOp
    generalize a2.eval = ev at *
    (go_simp; try (rw [Bool.eq_iff_iff]; simp))
  obtain ⟨a3, qa3⟩ : ∃ z_, z_ = a2.put (some 78) (.bool (decide (k ≤ t))) := ⟨_, rfl⟩
  have k3 : Ev.Stay [76, 77, 78] a a3 := by rw [qa3]; exact k2.put (by decide) _
  have e3_13 := Ev.oth qa3 (by decide) e2_13
  have e3_0 := Ev.oth qa3 (by decide) e2_0
  have e3_76 := Ev.oth qa3 (by decide) e2_76
  have e3_77 := Ev.oth qa3 (by decide) e2_77
  have e3_78 := Ev.sam qa3 (by rw [k2.1, hsz]; decide)
  rw [← qa3]
  clear qa3 e2_13 e2_0 e2_76 e2_77
  exact hQ _ k3 e3_78
set_option maxHeartbeats 2000000 in
theorem Rg.u4 {id : Nat} {Q : Exit → Act → World → Prop} {a : Act} {W : World} {k : Nat}
    (hsz : a.tmps.size = 133)  (h10 : a.eval (.tmp 10) = .int .i64 (k : Int)) (hk : k < 100)
    (hQ : ∀ a', Ev.Stay [20, 21, 10] a a' → a'.eval (.tmp 10) = .int .i64 ((k + 1 : Nat) : Int) → Q .normal a' (W)) : (Code.region id (Rf.ops 19 4) false).wp Try.prog Q a W := by
  refine wp_region_list ?_
  show wpList _ _ _ (_ :: _ :: _ :: []) _ _
  have k0 : Ev.Stay [20, 21, 10] a a := Ev.Stay.refl [20, 21, 10] a
  refine Ev.pv (N := 20) (v := .int .i64 (k : Int)) (W' := W) ?_ rfl rfl ?_
  · unfold execOp
    generalize a.eval = ev at *
    go_simp
  obtain ⟨a1, qa1⟩ : ∃ z_, z_ = a.put (some 20) (.int .i64 (k : Int)) := ⟨_, rfl⟩
  have k1 : Ev.Stay [20, 21, 10] a a1 := by rw [qa1]; exact k0.put (by decide) _
  have e1_10 := Ev.oth qa1 (by decide) h10
  have e1_20 := Ev.sam qa1 (by rw [k0.1, hsz]; decide)
  rw [← qa1]
  clear qa1 
  refine Ev.pv (N := 21) (v := .int .i64 ((k + 1 : Nat) : Int)) (W' := W) ?_ rfl rfl ?_
  · have ec0 : a1.eval (.const (.int .i64 (1))) = .int .i64 (1) := rfl
    unfold execOp
    generalize a1.eval = ev at *
    (go_simp; exact wr (by omega) (by omega))
  obtain ⟨a2, qa2⟩ : ∃ z_, z_ = a1.put (some 21) (.int .i64 ((k + 1 : Nat) : Int)) := ⟨_, rfl⟩
  have k2 : Ev.Stay [20, 21, 10] a a2 := by rw [qa2]; exact k1.put (by decide) _
  have e2_10 := Ev.oth qa2 (by decide) e1_10
  have e2_20 := Ev.oth qa2 (by decide) e1_20
  have e2_21 := Ev.sam qa2 (by rw [k1.1, hsz]; decide)
  rw [← qa2]
  clear qa2 e1_10 e1_20
  refine Ev.pv (N := 10) (v := .int .i64 ((k + 1 : Nat) : Int)) (W' := W) ?_ rfl rfl ?_
  · unfold execOp
    generalize a2.eval = ev at *
    go_simp
  obtain ⟨a3, qa3⟩ : ∃ z_, z_ = a2.put (some 10) (.int .i64 ((k + 1 : Nat) : Int)) := ⟨_, rfl⟩
  have k3 : Ev.Stay [20, 21, 10] a a3 := by rw [qa3]; exact k2.put (by decide) _
  have e3_20 := Ev.oth qa3 (by decide) e2_20
  have e3_21 := Ev.oth qa3 (by decide) e2_21
  have e3_10 := Ev.sam qa3 (by rw [k2.1, hsz]; decide)
  rw [← qa3]
  clear qa3 e2_10 e2_20 e2_21
  exact hQ _ k3 e3_10
set_option maxHeartbeats 2000000 in
theorem Rg.u8 {id : Nat} {Q : Exit → Act → World → Prop} {a : Act} {W : World} {k : Nat}
    (hsz : a.tmps.size = 133)  (h11 : a.eval (.tmp 11) = .int .i64 (k : Int)) (hk : k < 100)
    (hQ : ∀ a', Ev.Stay [31, 32, 11] a a' → a'.eval (.tmp 11) = .int .i64 ((k + 1 : Nat) : Int) → Q .normal a' (W)) : (Code.region id (Rf.ops 19 8) false).wp Try.prog Q a W := by
  refine wp_region_list ?_
  show wpList _ _ _ (_ :: _ :: _ :: []) _ _
  have k0 : Ev.Stay [31, 32, 11] a a := Ev.Stay.refl [31, 32, 11] a
  refine Ev.pv (N := 31) (v := .int .i64 (k : Int)) (W' := W) ?_ rfl rfl ?_
  · unfold execOp
    generalize a.eval = ev at *
    go_simp
  obtain ⟨a1, qa1⟩ : ∃ z_, z_ = a.put (some 31) (.int .i64 (k : Int)) := ⟨_, rfl⟩
  have k1 : Ev.Stay [31, 32, 11] a a1 := by rw [qa1]; exact k0.put (by decide) _
  have e1_11 := Ev.oth qa1 (by decide) h11
  have e1_31 := Ev.sam qa1 (by rw [k0.1, hsz]; decide)
  rw [← qa1]
  clear qa1 
  refine Ev.pv (N := 32) (v := .int .i64 ((k + 1 : Nat) : Int)) (W' := W) ?_ rfl rfl ?_
  · have ec0 : a1.eval (.const (.int .i64 (1))) = .int .i64 (1) := rfl
    unfold execOp
    generalize a1.eval = ev at *
    (go_simp; exact wr (by omega) (by omega))
  obtain ⟨a2, qa2⟩ : ∃ z_, z_ = a1.put (some 32) (.int .i64 ((k + 1 : Nat) : Int)) := ⟨_, rfl⟩
  have k2 : Ev.Stay [31, 32, 11] a a2 := by rw [qa2]; exact k1.put (by decide) _
  have e2_11 := Ev.oth qa2 (by decide) e1_11
  have e2_31 := Ev.oth qa2 (by decide) e1_31
  have e2_32 := Ev.sam qa2 (by rw [k1.1, hsz]; decide)
  rw [← qa2]
  clear qa2 e1_11 e1_31
  refine Ev.pv (N := 11) (v := .int .i64 ((k + 1 : Nat) : Int)) (W' := W) ?_ rfl rfl ?_
  · unfold execOp
    generalize a2.eval = ev at *
    go_simp
  obtain ⟨a3, qa3⟩ : ∃ z_, z_ = a2.put (some 11) (.int .i64 ((k + 1 : Nat) : Int)) := ⟨_, rfl⟩
  have k3 : Ev.Stay [31, 32, 11] a a3 := by rw [qa3]; exact k2.put (by decide) _
  have e3_31 := Ev.oth qa3 (by decide) e2_31
  have e3_32 := Ev.oth qa3 (by decide) e2_32
  have e3_11 := Ev.sam qa3 (by rw [k2.1, hsz]; decide)
  rw [← qa3]
  clear qa3 e2_11 e2_31 e2_32
  exact hQ _ k3 e3_11
set_option maxHeartbeats 2000000 in
theorem Rg.u13 {id : Nat} {Q : Exit → Act → World → Prop} {a : Act} {W : World} {k : Nat}
    (hsz : a.tmps.size = 133)  (h12 : a.eval (.tmp 12) = .int .i64 (k : Int)) (hk : k < 100)
    (hQ : ∀ a', Ev.Stay [74, 75, 12] a a' → a'.eval (.tmp 12) = .int .i64 ((k + 1 : Nat) : Int) → Q .normal a' (W)) : (Code.region id (Rf.ops 19 13) false).wp Try.prog Q a W := by
  refine wp_region_list ?_
  show wpList _ _ _ (_ :: _ :: _ :: []) _ _
  have k0 : Ev.Stay [74, 75, 12] a a := Ev.Stay.refl [74, 75, 12] a
  refine Ev.pv (N := 74) (v := .int .i64 (k : Int)) (W' := W) ?_ rfl rfl ?_
  · unfold execOp
    generalize a.eval = ev at *
    go_simp
  obtain ⟨a1, qa1⟩ : ∃ z_, z_ = a.put (some 74) (.int .i64 (k : Int)) := ⟨_, rfl⟩
  have k1 : Ev.Stay [74, 75, 12] a a1 := by rw [qa1]; exact k0.put (by decide) _
  have e1_12 := Ev.oth qa1 (by decide) h12
  have e1_74 := Ev.sam qa1 (by rw [k0.1, hsz]; decide)
  rw [← qa1]
  clear qa1 
  refine Ev.pv (N := 75) (v := .int .i64 ((k + 1 : Nat) : Int)) (W' := W) ?_ rfl rfl ?_
  · have ec0 : a1.eval (.const (.int .i64 (1))) = .int .i64 (1) := rfl
    unfold execOp
    generalize a1.eval = ev at *
    (go_simp; exact wr (by omega) (by omega))
  obtain ⟨a2, qa2⟩ : ∃ z_, z_ = a1.put (some 75) (.int .i64 ((k + 1 : Nat) : Int)) := ⟨_, rfl⟩
  have k2 : Ev.Stay [74, 75, 12] a a2 := by rw [qa2]; exact k1.put (by decide) _
  have e2_12 := Ev.oth qa2 (by decide) e1_12
  have e2_74 := Ev.oth qa2 (by decide) e1_74
  have e2_75 := Ev.sam qa2 (by rw [k1.1, hsz]; decide)
  rw [← qa2]
  clear qa2 e1_12 e1_74
  refine Ev.pv (N := 12) (v := .int .i64 ((k + 1 : Nat) : Int)) (W' := W) ?_ rfl rfl ?_
  · unfold execOp
    generalize a2.eval = ev at *
    go_simp
  obtain ⟨a3, qa3⟩ : ∃ z_, z_ = a2.put (some 12) (.int .i64 ((k + 1 : Nat) : Int)) := ⟨_, rfl⟩
  have k3 : Ev.Stay [74, 75, 12] a a3 := by rw [qa3]; exact k2.put (by decide) _
  have e3_74 := Ev.oth qa3 (by decide) e2_74
  have e3_75 := Ev.oth qa3 (by decide) e2_75
  have e3_12 := Ev.sam qa3 (by rw [k2.1, hsz]; decide)
  rw [← qa3]
  clear qa3 e2_12 e2_74 e2_75
  exact hQ _ k3 e3_12
set_option maxHeartbeats 2000000 in
theorem Rg.u16 {id : Nat} {Q : Exit → Act → World → Prop} {a : Act} {W : World} {k : Nat}
    (hsz : a.tmps.size = 133)  (h13 : a.eval (.tmp 13) = .int .i64 (k : Int)) (hk : k < 100)
    (hQ : ∀ a', Ev.Stay [79, 80, 13] a a' → a'.eval (.tmp 13) = .int .i64 ((k + 1 : Nat) : Int) → Q .normal a' (W)) : (Code.region id (Rf.ops 19 16) false).wp Try.prog Q a W := by
  refine wp_region_list ?_
  show wpList _ _ _ (_ :: _ :: _ :: []) _ _
  have k0 : Ev.Stay [79, 80, 13] a a := Ev.Stay.refl [79, 80, 13] a
  refine Ev.pv (N := 79) (v := .int .i64 (k : Int)) (W' := W) ?_ rfl rfl ?_
  · unfold execOp
    generalize a.eval = ev at *
    go_simp
  obtain ⟨a1, qa1⟩ : ∃ z_, z_ = a.put (some 79) (.int .i64 (k : Int)) := ⟨_, rfl⟩
  have k1 : Ev.Stay [79, 80, 13] a a1 := by rw [qa1]; exact k0.put (by decide) _
  have e1_13 := Ev.oth qa1 (by decide) h13
  have e1_79 := Ev.sam qa1 (by rw [k0.1, hsz]; decide)
  rw [← qa1]
  clear qa1 
  refine Ev.pv (N := 80) (v := .int .i64 ((k + 1 : Nat) : Int)) (W' := W) ?_ rfl rfl ?_
  · have ec0 : a1.eval (.const (.int .i64 (1))) = .int .i64 (1) := rfl
    unfold execOp
    generalize a1.eval = ev at *
    (go_simp; exact wr (by omega) (by omega))
  obtain ⟨a2, qa2⟩ : ∃ z_, z_ = a1.put (some 80) (.int .i64 ((k + 1 : Nat) : Int)) := ⟨_, rfl⟩
  have k2 : Ev.Stay [79, 80, 13] a a2 := by rw [qa2]; exact k1.put (by decide) _
  have e2_13 := Ev.oth qa2 (by decide) e1_13
  have e2_79 := Ev.oth qa2 (by decide) e1_79
  have e2_80 := Ev.sam qa2 (by rw [k1.1, hsz]; decide)
  rw [← qa2]
  clear qa2 e1_13 e1_79
  refine Ev.pv (N := 13) (v := .int .i64 ((k + 1 : Nat) : Int)) (W' := W) ?_ rfl rfl ?_
  · unfold execOp
    generalize a2.eval = ev at *
    go_simp
  obtain ⟨a3, qa3⟩ : ∃ z_, z_ = a2.put (some 13) (.int .i64 ((k + 1 : Nat) : Int)) := ⟨_, rfl⟩
  have k3 : Ev.Stay [79, 80, 13] a a3 := by rw [qa3]; exact k2.put (by decide) _
  have e3_79 := Ev.oth qa3 (by decide) e2_79
  have e3_80 := Ev.oth qa3 (by decide) e2_80
  have e3_13 := Ev.sam qa3 (by rw [k2.1, hsz]; decide)
  rw [← qa3]
  clear qa3 e2_13 e2_79 e2_80
  exact hQ _ k3 e3_13
set_option maxHeartbeats 2000000 in
theorem Rg.u20 {id : Nat} {Q : Exit → Act → World → Prop} {a : Act} {W : World} {v : Value}
    (hsz : a.tmps.size = 133)  (h9 : a.eval (.tmp 9) = v)
    (hQ : ∀ a', Ev.Stay [132, 8] a a' → a'.eval (.tmp 8) = v → Q .normal a' (W)) : (Code.region id (Rf.ops 19 20) false).wp Try.prog Q a W := by
  refine wp_region_list ?_
  show wpList _ _ _ (_ :: _ :: []) _ _
  have k0 : Ev.Stay [132, 8] a a := Ev.Stay.refl [132, 8] a
  refine Ev.pv (N := 132) (v := v) (W' := W) ?_ rfl rfl ?_
  · unfold execOp
    generalize a.eval = ev at *
    (simp [go_sem, *])
  obtain ⟨a1, qa1⟩ : ∃ z_, z_ = a.put (some 132) (v) := ⟨_, rfl⟩
  have k1 : Ev.Stay [132, 8] a a1 := by rw [qa1]; exact k0.put (by decide) _
  have e1_9 := Ev.oth qa1 (by decide) h9
  have e1_132 := Ev.sam qa1 (by rw [k0.1, hsz]; decide)
  rw [← qa1]
  clear qa1 
  refine Ev.pv (N := 8) (v := v) (W' := W) ?_ rfl rfl ?_
  · unfold execOp
    generalize a1.eval = ev at *
    (simp [go_sem, *])
  obtain ⟨a2, qa2⟩ : ∃ z_, z_ = a1.put (some 8) (v) := ⟨_, rfl⟩
  have k2 : Ev.Stay [132, 8] a a2 := by rw [qa2]; exact k1.put (by decide) _
  have e2_9 := Ev.oth qa2 (by decide) e1_9
  have e2_132 := Ev.oth qa2 (by decide) e1_132
  have e2_8 := Ev.sam qa2 (by rw [k1.1, hsz]; decide)
  rw [← qa2]
  clear qa2 e1_9 e1_132
  exact hQ _ k2 e2_8
set_option maxHeartbeats 2000000 in
theorem Rg.u17 {id : Nat} {Q : Exit → Act → World → Prop} {a : Act} {W : World} {t r c : Nat} {q bt : Int}
    (hsz : a.tmps.size = 133)  (h0 : a.eval (.tmp 0) = .int .i64 (t : Int)) (h1 : a.eval (.tmp 1) = .int .i64 (q)) (h12 : a.eval (.tmp 12) = .int .i64 ((r + 1 : Nat) : Int)) (h13 : a.eval (.tmp 13) = .int .i64 ((c + 1 : Nat) : Int)) (hr : r < 32) (hm : ((r * t : Nat) : Int) = (r : Int) * (t : Int) ∧ (r * t : Nat) < 32) (hc : c < 32) (hb : bits .and .i64 (q / 2 ^ (r * t + c)) 1 = bt)
    (hQ : ∀ a', Ev.Stay [81, 82, 83, 84, 85, 86, 87, 88, 89, 90, 91, 92] a a' → a'.eval (.tmp 92) = .bool (bt == 1) → Q .normal a' (W)) : (Code.region id (Rf.ops 19 17) false).wp Try.prog Q a W := by
  refine wp_region_list ?_
  show wpList _ _ _ (_ :: _ :: _ :: _ :: _ :: _ :: _ :: _ :: _ :: _ :: _ :: _ :: []) _ _
  have k0 : Ev.Stay [81, 82, 83, 84, 85, 86, 87, 88, 89, 90, 91, 92] a a := Ev.Stay.refl [81, 82, 83, 84, 85, 86, 87, 88, 89, 90, 91, 92] a
  refine Ev.pv (N := 81) (v := .int .i64 (q)) (W' := W) ?_ rfl rfl ?_
  · unfold execOp
    generalize a.eval = ev at *
    go_simp
  obtain ⟨a1, qa1⟩ : ∃ z_, z_ = a.put (some 81) (.int .i64 (q)) := ⟨_, rfl⟩
  have k1 : Ev.Stay [81, 82, 83, 84, 85, 86, 87, 88, 89, 90, 91, 92] a a1 := by rw [qa1]; exact k0.put (by decide) _
  have e1_0 := Ev.oth qa1 (by decide) h0
  have e1_1 := Ev.oth qa1 (by decide) h1
  have e1_12 := Ev.oth qa1 (by decide) h12
  have e1_13 := Ev.oth qa1 (by decide) h13
  have e1_81 := Ev.sam qa1 (by rw [k0.1, hsz]; decide)
  rw [← qa1]
  clear qa1 
  refine Ev.pv (N := 82) (v := .int .i64 ((r + 1 : Nat) : Int)) (W' := W) ?_ rfl rfl ?_
  · unfold execOp
    generalize a1.eval = ev at *
    go_simp
  obtain ⟨a2, qa2⟩ : ∃ z_, z_ = a1.put (some 82) (.int .i64 ((r + 1 : Nat) : Int)) := ⟨_, rfl⟩
  have k2 : Ev.Stay [81, 82, 83, 84, 85, 86, 87, 88, 89, 90, 91, 92] a a2 := by rw [qa2]; exact k1.put (by decide) _
  have e2_0 := Ev.oth qa2 (by decide) e1_0
  have e2_1 := Ev.oth qa2 (by decide) e1_1
  have e2_12 := Ev.oth qa2 (by decide) e1_12
  have e2_13 := Ev.oth qa2 (by decide) e1_13
  have e2_81 := Ev.oth qa2 (by decide) e1_81
  have e2_82 := Ev.sam qa2 (by rw [k1.1, hsz]; decide)
  rw [← qa2]
  clear qa2 e1_0 e1_1 e1_12 e1_13 e1_81
  refine Ev.pv (N := 83) (v := .int .i64 (r : Int)) (W' := W) ?_ rfl rfl ?_
  · have ec0 : a2.eval (.const (.int .i64 (1))) = .int .i64 (1) := rfl
    have d_ : (r : Int) + 1 - 1 = (r : Int) := by omega
    have d2_ : IntKind.i64.wrap (r : Int) = (r : Int) := wr (by omega) (by omega)
    unfold execOp
    generalize a2.eval = ev at *
    (go_simp; try (exact wr (by omega) (by omega)))
  obtain ⟨a3, qa3⟩ : ∃ z_, z_ = a2.put (some 83) (.int .i64 (r : Int)) := ⟨_, rfl⟩
  have k3 : Ev.Stay [81, 82, 83, 84, 85, 86, 87, 88, 89, 90, 91, 92] a a3 := by rw [qa3]; exact k2.put (by decide) _
  have e3_0 := Ev.oth qa3 (by decide) e2_0
  have e3_1 := Ev.oth qa3 (by decide) e2_1
  have e3_12 := Ev.oth qa3 (by decide) e2_12
  have e3_13 := Ev.oth qa3 (by decide) e2_13
  have e3_81 := Ev.oth qa3 (by decide) e2_81
  have e3_82 := Ev.oth qa3 (by decide) e2_82
  have e3_83 := Ev.sam qa3 (by rw [k2.1, hsz]; decide)
  rw [← qa3]
  clear qa3 e2_0 e2_1 e2_12 e2_13 e2_81 e2_82
  clear e3_82
  refine Ev.pv (N := 84) (v := .int .i64 (t : Int)) (W' := W) ?_ rfl rfl ?_
  · unfold execOp
    generalize a3.eval = ev at *
    go_simp
  obtain ⟨a4, qa4⟩ : ∃ z_, z_ = a3.put (some 84) (.int .i64 (t : Int)) := ⟨_, rfl⟩
  have k4 : Ev.Stay [81, 82, 83, 84, 85, 86, 87, 88, 89, 90, 91, 92] a a4 := by rw [qa4]; exact k3.put (by decide) _
  have e4_0 := Ev.oth qa4 (by decide) e3_0
  have e4_1 := Ev.oth qa4 (by decide) e3_1
  have e4_12 := Ev.oth qa4 (by decide) e3_12
  have e4_13 := Ev.oth qa4 (by decide) e3_13
  have e4_81 := Ev.oth qa4 (by decide) e3_81
  have e4_83 := Ev.oth qa4 (by decide) e3_83
  have e4_84 := Ev.sam qa4 (by rw [k3.1, hsz]; decide)
  rw [← qa4]
  clear qa4 e3_0 e3_1 e3_12 e3_13 e3_81 e3_83
  refine Ev.pv (N := 85) (v := .int .i64 ((r * t : Nat) : Int)) (W' := W) ?_ rfl rfl ?_
  · have hm_ := hm.1
    have hm2_ := hm.2
    unfold execOp
    generalize a4.eval = ev at *
    (go_simp; rw [← hm_]; exact wr (by omega) (by omega))
  obtain ⟨a5, qa5⟩ : ∃ z_, z_ = a4.put (some 85) (.int .i64 ((r * t : Nat) : Int)) := ⟨_, rfl⟩
  have k5 : Ev.Stay [81, 82, 83, 84, 85, 86, 87, 88, 89, 90, 91, 92] a a5 := by rw [qa5]; exact k4.put (by decide) _
  have e5_0 := Ev.oth qa5 (by decide) e4_0
  have e5_1 := Ev.oth qa5 (by decide) e4_1
  have e5_12 := Ev.oth qa5 (by decide) e4_12
  have e5_13 := Ev.oth qa5 (by decide) e4_13
  have e5_81 := Ev.oth qa5 (by decide) e4_81
  have e5_83 := Ev.oth qa5 (by decide) e4_83
  have e5_84 := Ev.oth qa5 (by decide) e4_84
  have e5_85 := Ev.sam qa5 (by rw [k4.1, hsz]; decide)
  rw [← qa5]
  clear qa5 e4_0 e4_1 e4_12 e4_13 e4_81 e4_83 e4_84
  clear e5_83
  clear e5_84
  refine Ev.pv (N := 86) (v := .int .i64 ((c + 1 : Nat) : Int)) (W' := W) ?_ rfl rfl ?_
  · unfold execOp
    generalize a5.eval = ev at *
    go_simp
  obtain ⟨a6, qa6⟩ : ∃ z_, z_ = a5.put (some 86) (.int .i64 ((c + 1 : Nat) : Int)) := ⟨_, rfl⟩
  have k6 : Ev.Stay [81, 82, 83, 84, 85, 86, 87, 88, 89, 90, 91, 92] a a6 := by rw [qa6]; exact k5.put (by decide) _
  have e6_0 := Ev.oth qa6 (by decide) e5_0
  have e6_1 := Ev.oth qa6 (by decide) e5_1
  have e6_12 := Ev.oth qa6 (by decide) e5_12
  have e6_13 := Ev.oth qa6 (by decide) e5_13
  have e6_81 := Ev.oth qa6 (by decide) e5_81
  have e6_85 := Ev.oth qa6 (by decide) e5_85
  have e6_86 := Ev.sam qa6 (by rw [k5.1, hsz]; decide)
  rw [← qa6]
  clear qa6 e5_0 e5_1 e5_12 e5_13 e5_81 e5_85
  refine Ev.pv (N := 87) (v := .int .i64 ((r * t + c + 1 : Nat) : Int)) (W' := W) ?_ rfl rfl ?_
  · have hm_ := hm.1
    have hm2_ := hm.2
    unfold execOp
    generalize a6.eval = ev at *
    (go_simp; rw [← hm_, ← Int.add_assoc]; exact wr (by omega) (by omega))
  obtain ⟨a7, qa7⟩ : ∃ z_, z_ = a6.put (some 87) (.int .i64 ((r * t + c + 1 : Nat) : Int)) := ⟨_, rfl⟩
  have k7 : Ev.Stay [81, 82, 83, 84, 85, 86, 87, 88, 89, 90, 91, 92] a a7 := by rw [qa7]; exact k6.put (by decide) _
  have e7_0 := Ev.oth qa7 (by decide) e6_0
  have e7_1 := Ev.oth qa7 (by decide) e6_1
  have e7_12 := Ev.oth qa7 (by decide) e6_12
  have e7_13 := Ev.oth qa7 (by decide) e6_13
  have e7_81 := Ev.oth qa7 (by decide) e6_81
  have e7_85 := Ev.oth qa7 (by decide) e6_85
  have e7_86 := Ev.oth qa7 (by decide) e6_86
  have e7_87 := Ev.sam qa7 (by rw [k6.1, hsz]; decide)
  rw [← qa7]
  clear qa7 e6_0 e6_1 e6_12 e6_13 e6_81 e6_85 e6_86
  clear e7_85
  clear e7_86
  refine Ev.pv (N := 88) (v := .int .i64 ((r * t + c : Nat) : Int)) (W' := W) ?_ rfl rfl ?_
  · have ec0 : a7.eval (.const (.int .i64 (1))) = .int .i64 (1) := rfl
    have hm_ := hm.1
    have hm2_ := hm.2
    unfold execOp
    generalize a7.eval = ev at *
    (go_simp; try (rw [← hm_]; first | exact wr (by omega) (by omega) | (rw [wr (by omega) (by omega)]; omega)))
  obtain ⟨a8, qa8⟩ : ∃ z_, z_ = a7.put (some 88) (.int .i64 ((r * t + c : Nat) : Int)) := ⟨_, rfl⟩
  have k8 : Ev.Stay [81, 82, 83, 84, 85, 86, 87, 88, 89, 90, 91, 92] a a8 := by rw [qa8]; exact k7.put (by decide) _
  have e8_0 := Ev.oth qa8 (by decide) e7_0
  have e8_1 := Ev.oth qa8 (by decide) e7_1
  have e8_12 := Ev.oth qa8 (by decide) e7_12
  have e8_13 := Ev.oth qa8 (by decide) e7_13
  have e8_81 := Ev.oth qa8 (by decide) e7_81
  have e8_87 := Ev.oth qa8 (by decide) e7_87
  have e8_88 := Ev.sam qa8 (by rw [k7.1, hsz]; decide)
  rw [← qa8]
  clear qa8 e7_0 e7_1 e7_12 e7_13 e7_81 e7_87
  clear e8_87
  refine Ev.pv (N := 89) (v := .int .u64 (r * t + c : Nat)) (W' := W) ?_ rfl rfl ?_
  · have hm_ := hm.1
    have hm2_ := hm.2
    unfold execOp
    generalize a8.eval = ev at *
    (go_simp; try (rw [← hm_]; exact wu (by omega) (by omega)))
  obtain ⟨a9, qa9⟩ : ∃ z_, z_ = a8.put (some 89) (.int .u64 (r * t + c : Nat)) := ⟨_, rfl⟩
  have k9 : Ev.Stay [81, 82, 83, 84, 85, 86, 87, 88, 89, 90, 91, 92] a a9 := by rw [qa9]; exact k8.put (by decide) _
  have e9_0 := Ev.oth qa9 (by decide) e8_0
  have e9_1 := Ev.oth qa9 (by decide) e8_1
  have e9_12 := Ev.oth qa9 (by decide) e8_12
  have e9_13 := Ev.oth qa9 (by decide) e8_13
  have e9_81 := Ev.oth qa9 (by decide) e8_81
  have e9_88 := Ev.oth qa9 (by decide) e8_88
  have e9_89 := Ev.sam qa9 (by rw [k8.1, hsz]; decide)
  rw [← qa9]
  clear qa9 e8_0 e8_1 e8_12 e8_13 e8_81 e8_88
  clear e9_88
  refine Ev.pv (N := 90) (v := .int .i64 (q / 2 ^ (r * t + c))) (W' := W) ?_ rfl rfl ?_
  · have hm_ := hm.1
    have l0_ : (0 : Int) ≤ (r : Int) * (t : Int) + (c : Int) := by omega
    have l1_ : ((r : Int) * (t : Int) + (c : Int)).toNat = r * t + c := by omega
    have mn_ : min (r * t + c) 64 = r * t + c := by have := hm.2; omega
    clear hm_
    unfold execOp
    generalize a9.eval = ev at *
    go_simp
  obtain ⟨a10, qa10⟩ : ∃ z_, z_ = a9.put (some 90) (.int .i64 (q / 2 ^ (r * t + c))) := ⟨_, rfl⟩
  have k10 : Ev.Stay [81, 82, 83, 84, 85, 86, 87, 88, 89, 90, 91, 92] a a10 := by rw [qa10]; exact k9.put (by decide) _
  have e10_0 := Ev.oth qa10 (by decide) e9_0
  have e10_1 := Ev.oth qa10 (by decide) e9_1
  have e10_12 := Ev.oth qa10 (by decide) e9_12
  have e10_13 := Ev.oth qa10 (by decide) e9_13
  have e10_81 := Ev.oth qa10 (by decide) e9_81
  have e10_89 := Ev.oth qa10 (by decide) e9_89
  have e10_90 := Ev.sam qa10 (by rw [k9.1, hsz]; decide)
  rw [← qa10]
  clear qa10 e9_0 e9_1 e9_12 e9_13 e9_81 e9_89
  clear e10_81
  clear e10_89
  refine Ev.pv (N := 91) (v := .int .i64 (bt)) (W' := W) ?_ rfl rfl ?_
  · have ec0 : a10.eval (.const (.int .i64 (1))) = .int .i64 (1) := rfl
    have hb_ := hb
    unfold execOp
    generalize a10.eval = ev at *
    go_simp
  obtain ⟨a11, qa11⟩ : ∃ z_, z_ = a10.put (some 91) (.int .i64 (bt)) := ⟨_, rfl⟩
  have k11 : Ev.Stay [81, 82, 83, 84, 85, 86, 87, 88, 89, 90, 91, 92] a a11 := by rw [qa11]; exact k10.put (by decide) _
  have e11_0 := Ev.oth qa11 (by decide) e10_0
  have e11_1 := Ev.oth qa11 (by decide) e10_1
  have e11_12 := Ev.oth qa11 (by decide) e10_12
  have e11_13 := Ev.oth qa11 (by decide) e10_13
  have e11_90 := Ev.oth qa11 (by decide) e10_90
  have e11_91 := Ev.sam qa11 (by rw [k10.1, hsz]; decide)
  rw [← qa11]
  clear qa11 e10_0 e10_1 e10_12 e10_13 e10_90
  clear e11_90
  refine Ev.pv (N := 92) (v := .bool (bt == 1)) (W' := W) ?_ rfl rfl ?_
  · have ec0 : a11.eval (.const (.int .i64 (1))) = .int .i64 (1) := rfl
    unfold execOp
    generalize a11.eval = ev at *
    go_simp
  obtain ⟨a12, qa12⟩ : ∃ z_, z_ = a11.put (some 92) (.bool (bt == 1)) := ⟨_, rfl⟩
  have k12 : Ev.Stay [81, 82, 83, 84, 85, 86, 87, 88, 89, 90, 91, 92] a a12 := by rw [qa12]; exact k11.put (by decide) _
  have e12_0 := Ev.oth qa12 (by decide) e11_0
  have e12_1 := Ev.oth qa12 (by decide) e11_1
  have e12_12 := Ev.oth qa12 (by decide) e11_12
  have e12_13 := Ev.oth qa12 (by decide) e11_13
  have e12_91 := Ev.oth qa12 (by decide) e11_91
  have e12_92 := Ev.sam qa12 (by rw [k11.1, hsz]; decide)
  rw [← qa12]
  clear qa12 e11_0 e11_1 e11_12 e11_13 e11_91
  exact hQ _ k12 e12_92
set_option maxHeartbeats 2000000 in
theorem Rg.u5 {id : Nat} {Q : Exit → Act → World → Prop} {a : Act} {W : World} {go t r : Nat} {gs : Nat → Nat}
    (hsz : a.tmps.size = 133)  (h0 : a.eval (.tmp 0) = .int .i64 (t : Int)) (h9 : a.eval (.tmp 9) = .slice (some ⟨go, 0, none⟩) (t + 1) (t + 1)) (h10 : a.eval (.tmp 10) = .int .i64 (r : Int)) (ht : t ≤ 3) (hr : r ≤ t) (hgo : W.heap[go]? = some (.cells (rowsP (t + 1) r gs) 56 (0, 0)))
    (hQ : ∀ a', Ev.Stay [22, 23, 24, 25, 26, 27] a a' → Q .normal a' ((W.alloc (.cells (tab3 (t + 1) (fun _ => 0)) 3)).setCell ⟨go, r, none⟩ (.slice (some ⟨W.heap.size, 0, none⟩) (t + 1) (t + 1)))) : (Code.region id (Rf.ops 19 5) false).wp Try.prog Q a W := by
  refine wp_region_list ?_
  show wpList _ _ _ (_ :: _ :: _ :: _ :: _ :: _ :: _ :: []) _ _
  have k0 : Ev.Stay [22, 23, 24, 25, 26, 27] a a := Ev.Stay.refl [22, 23, 24, 25, 26, 27] a
  refine Ev.pv (N := 22) (v := .slice (some ⟨go, 0, none⟩) (t + 1) (t + 1)) (W' := W) ?_ rfl rfl ?_
  · unfold execOp
    generalize a.eval = ev at *
    go_simp
  obtain ⟨a1, qa1⟩ : ∃ z_, z_ = a.put (some 22) (.slice (some ⟨go, 0, none⟩) (t + 1) (t + 1)) := ⟨_, rfl⟩
  have k1 : Ev.Stay [22, 23, 24, 25, 26, 27] a a1 := by rw [qa1]; exact k0.put (by decide) _
  have e1_0 := Ev.oth qa1 (by decide) h0
  have e1_9 := Ev.oth qa1 (by decide) h9
  have e1_10 := Ev.oth qa1 (by decide) h10
  have e1_22 := Ev.sam qa1 (by rw [k0.1, hsz]; decide)
  rw [← qa1]
  clear qa1 
  refine Ev.pv (N := 23) (v := .int .i64 (r : Int)) (W' := W) ?_ rfl rfl ?_
  · unfold execOp
    generalize a1.eval = ev at *
    go_simp
  obtain ⟨a2, qa2⟩ : ∃ z_, z_ = a1.put (some 23) (.int .i64 (r : Int)) := ⟨_, rfl⟩
  have k2 : Ev.Stay [22, 23, 24, 25, 26, 27] a a2 := by rw [qa2]; exact k1.put (by decide) _
  have e2_0 := Ev.oth qa2 (by decide) e1_0
  have e2_9 := Ev.oth qa2 (by decide) e1_9
  have e2_10 := Ev.oth qa2 (by decide) e1_10
  have e2_22 := Ev.oth qa2 (by decide) e1_22
  have e2_23 := Ev.sam qa2 (by rw [k1.1, hsz]; decide)
  rw [← qa2]
  clear qa2 e1_0 e1_9 e1_10 e1_22
  refine Ev.pv (N := 24) (v := .int .i64 (t : Int)) (W' := W) ?_ rfl rfl ?_
  · unfold execOp
    generalize a2.eval = ev at *
    go_simp
  obtain ⟨a3, qa3⟩ : ∃ z_, z_ = a2.put (some 24) (.int .i64 (t : Int)) := ⟨_, rfl⟩
  have k3 : Ev.Stay [22, 23, 24, 25, 26, 27] a a3 := by rw [qa3]; exact k2.put (by decide) _
  have e3_0 := Ev.oth qa3 (by decide) e2_0
  have e3_9 := Ev.oth qa3 (by decide) e2_9
  have e3_10 := Ev.oth qa3 (by decide) e2_10
  have e3_22 := Ev.oth qa3 (by decide) e2_22
  have e3_23 := Ev.oth qa3 (by decide) e2_23
  have e3_24 := Ev.sam qa3 (by rw [k2.1, hsz]; decide)
  rw [← qa3]
  clear qa3 e2_0 e2_9 e2_10 e2_22 e2_23
  refine Ev.pv (N := 25) (v := .int .i64 ((t + 1 : Nat) : Int)) (W' := W) ?_ rfl rfl ?_
  · have ec0 : a3.eval (.const (.int .i64 (1))) = .int .i64 (1) := rfl
    unfold execOp
    generalize a3.eval = ev at *
    (go_simp; exact wr (by omega) (by omega))
  obtain ⟨a4, qa4⟩ : ∃ z_, z_ = a3.put (some 25) (.int .i64 ((t + 1 : Nat) : Int)) := ⟨_, rfl⟩
  have k4 : Ev.Stay [22, 23, 24, 25, 26, 27] a a4 := by rw [qa4]; exact k3.put (by decide) _
  have e4_0 := Ev.oth qa4 (by decide) e3_0
  have e4_9 := Ev.oth qa4 (by decide) e3_9
  have e4_10 := Ev.oth qa4 (by decide) e3_10
  have e4_22 := Ev.oth qa4 (by decide) e3_22
  have e4_23 := Ev.oth qa4 (by decide) e3_23
  have e4_24 := Ev.oth qa4 (by decide) e3_24
  have e4_25 := Ev.sam qa4 (by rw [k3.1, hsz]; decide)
  rw [← qa4]
  clear qa4 e3_0 e3_9 e3_10 e3_22 e3_23 e3_24
  clear e4_24
  refine Ev.pv (N := 26) (v := .slice (some ⟨W.heap.size, 0, none⟩) (t + 1) (t + 1)) (W' := W.alloc (.cells (tab3 (t + 1) (fun _ => 0)) 3)) ?_ rfl rfl ?_
  · have hm_ := run_row W (t + 1) (by omega)
    have hc_ : ((t + 1 : Nat) : Int) = (t : Int) + 1 := by omega
    rw [hc_] at hm_
    clear hc_
    unfold execOp
    generalize a4.eval = ev at *
    go_simp
  obtain ⟨a5, qa5⟩ : ∃ z_, z_ = a4.put (some 26) (.slice (some ⟨W.heap.size, 0, none⟩) (t + 1) (t + 1)) := ⟨_, rfl⟩
  have k5 : Ev.Stay [22, 23, 24, 25, 26, 27] a a5 := by rw [qa5]; exact k4.put (by decide) _
  have e5_0 := Ev.oth qa5 (by decide) e4_0
  have e5_9 := Ev.oth qa5 (by decide) e4_9
  have e5_10 := Ev.oth qa5 (by decide) e4_10
  have e5_22 := Ev.oth qa5 (by decide) e4_22
  have e5_23 := Ev.oth qa5 (by decide) e4_23
  have e5_25 := Ev.oth qa5 (by decide) e4_25
  have e5_26 := Ev.sam qa5 (by rw [k4.1, hsz]; decide)
  rw [← qa5]
  clear qa5 e4_0 e4_9 e4_10 e4_22 e4_23 e4_25
  clear e5_25
  refine Ev.pv (N := 27) (v := .pointer (some ⟨go, r, none⟩)) (W' := W.alloc (.cells (tab3 (t + 1) (fun _ => 0)) 3)) ?_ rfl rfl ?_
  · have lk_ : (r : Int) < (t : Int) + 1 := by omega
    have lk0_ : (0 : Int) ≤ (r : Int) := by omega
    unfold execOp
    generalize a5.eval = ev at *
    go_simp
  obtain ⟨a6, qa6⟩ : ∃ z_, z_ = a5.put (some 27) (.pointer (some ⟨go, r, none⟩)) := ⟨_, rfl⟩
  have k6 : Ev.Stay [22, 23, 24, 25, 26, 27] a a6 := by rw [qa6]; exact k5.put (by decide) _
  have e6_0 := Ev.oth qa6 (by decide) e5_0
  have e6_9 := Ev.oth qa6 (by decide) e5_9
  have e6_10 := Ev.oth qa6 (by decide) e5_10
  have e6_22 := Ev.oth qa6 (by decide) e5_22
  have e6_23 := Ev.oth qa6 (by decide) e5_23
  have e6_26 := Ev.oth qa6 (by decide) e5_26
  have e6_27 := Ev.sam qa6 (by rw [k5.1, hsz]; decide)
  rw [← qa6]
  clear qa6 e5_0 e5_9 e5_10 e5_22 e5_23 e5_26
  clear e6_22
  clear e6_23
  have hg2 : (W.alloc (.cells (tab3 (t + 1) (fun _ => 0)) 3)).heap[go]? = some (.cells (rowsP (t + 1) r gs) 56 (0, 0)) := blk_alloc hgo _
  have hcell := rowsP_cell (i := r) hg2 (by omega)
  have hfz := blk_frozen hg2 r
  refine Ev.pk (W' := (W.alloc (.cells (tab3 (t + 1) (fun _ => 0)) 3)).setCell ⟨go, r, none⟩ (.slice (some ⟨W.heap.size, 0, none⟩) (t + 1) (t + 1))) ?_ rfl rfl ?_
  · clear hg2
    obtain ⟨u_, hu_⟩ := hcell
    generalize (W.alloc (.cells (tab3 (t + 1) (fun _ => 0)) 3)) = W9 at *
    unfold execOp
    generalize a6.eval = ev at *
    go_simp
  exact hQ _ k6

structure Rf.St (t go : Nat) (q p l : Int) (a : Act) : Prop where
  sz : a.tmps.size = 133
  e0 : a.eval (.tmp 0) = .int .i64 (t : Int)
  e1 : a.eval (.tmp 1) = .int .i64 q
  e2 : a.eval (.tmp 2) = .int .i64 p
  e3 : a.eval (.tmp 3) = .int .i64 l
  e9 : a.eval (.tmp 9) = .slice (some ⟨go, 0, none⟩) (t + 1) (t + 1)
theorem Rf.St.of {t go : Nat} {q p l : Int} {a a' : Act} {L : List Nat} (h : Rf.St t go q p l a) (k : Ev.Stay L a a') (hn : (decide (0 ∉ L) && decide (1 ∉ L) && decide (2 ∉ L) && decide (3 ∉ L) && decide (9 ∉ L)) = true) : Rf.St t go q p l a' := by
  simp only [Bool.and_eq_true, decide_eq_true_eq] at hn
  obtain ⟨⟨⟨⟨n0, n1⟩, n2⟩, n3⟩, n9⟩ := hn
  exact ⟨k.1.trans h.sz, (k.2.2 0 n0).trans h.e0, (k.2.2 1 n1).trans h.e1, (k.2.2 2 n2).trans h.e2, (k.2.2 3 n3).trans h.e3, (k.2.2 9 n9).trans h.e9⟩
noncomputable def Rf.R (k : Nat) : Code := .region k (Rf.ops 19 k) false
noncomputable def Rf.D (k : Nat) : Code := .region k (Rf.ops 19 k) true
noncomputable def Rf.body1 : Code := .seq (.seq (Rf.R 3) (.cond (.tmp 19) .skip (.exit 0))) (.seq (.block 1 (Rf.R 5)) (Rf.R 4))
noncomputable def Rf.body2 : Code := .seq (.seq (Rf.R 7) (.cond (.tmp 30) .skip (.exit 2))) (.seq (.block 3 (.seq (Rf.D 9) (Rf.D 10))) (Rf.R 8))
noncomputable def Rf.body4 : Code := .seq (.seq (Rf.R 15) (.cond (.tmp 78) .skip (.exit 6))) (.seq (.block 7 (.seq (Rf.R 17) (.cond (.tmp 92) (Rf.D 18) (Rf.D 19)))) (Rf.R 16))
noncomputable def Rf.body3 : Code := .seq (.seq (Rf.R 12) (.cond (.tmp 73) .skip (.exit 4))) (.seq (.block 5 (.seq (Rf.R 14) (.block 6 (.loop Rf.body4)))) (Rf.R 13))
noncomputable def Rf.code19 : Code := .seq (Rf.R 0) (.seq (Rf.R 1) (.seq (.seq (Rf.R 2) (.block 0 (.loop Rf.body1))) (.seq (.seq (Rf.R 6) (.block 2 (.loop Rf.body2))) (.seq (.seq (Rf.R 11) (.block 4 (.loop Rf.body3))) (.seq (Rf.R 20) .ret)))))
def Rf.L1 : List Nat := 10 :: List.range' 17 11
def Rf.L2 : List Nat := 11 :: List.range' 28 43
def Rf.L4 : List Nat := 13 :: List.range' 76 56
def Rf.L3 : List Nat := 12 :: 13 :: List.range' 71 61
theorem rowsP_set {W : World} {go n r : Nat} {gs : Nat → Nat} (h : W.heap[go]? = some (.cells (rowsP n r gs) 56 (0, 0))) (hr : r < n) (g : Nat) : (W.setCell ⟨go, r, none⟩ (.slice (some ⟨g, 0, none⟩) n n)).heap[go]? = some (.cells (rowsP n (r + 1) (fun i => if i = r then g else gs i)) 56 (0, 0)) := by
  have h1 := blk_set h r (.slice (some ⟨g, 0, none⟩) n n)
  rw [h1]
  congr 2
  unfold rowsP
  apply Array.ext
  · simp
  · intro j h1 h2
    simp at h1 h2
    simp [Array.getElem_setIfInBounds]
    by_cases e : r = j
    · subst e; simp
    · rw [List.getElem_set_ne e]
      simp only [List.getElem_map, List.getElem_range]
      by_cases c : j < r
      · rw [if_pos c, if_pos (by omega), if_neg (fun q => e q.symm)]
      · rw [if_neg c, if_neg (by omega)]
section
variable {t go n0 : Nat} {q p l : Int} {Q : Exit → Act → World → Prop}
theorem Rf.loop1 (ht : t ≤ 3) (hn0 : n0 ≤ go) : ∀ (m r : Nat) (a : Act) (W : World) (gs : Nat → Nat), r + m = t + 1 → Rf.St t go q p l a → a.eval (.tmp 10) = .int .i64 (r : Int) → W.heap[go]? = some (.cells (rowsP (t + 1) r gs) 56 (0, 0)) → (∀ i, i < r → W.heap[gs i]? = some (.cells (tab3 (t + 1) (fun _ => 0)) 3 (0, 0))) → (∀ i j, i < r → j < r → gs i = gs j → i = j) → n0 ≤ W.heap.size →
    (∀ a' W' gs', Ev.Stay Rf.L1 a a' → Mx W' go (t + 1) gs' (fun _ _ => 0) → Below n0 W W' → (∀ i, i < t + 1 → n0 ≤ gs' i ∨ ∃ j, j < r ∧ gs' i = gs j) → Q (.exit 0) a' W') → Code.rounds Try.prog Rf.body1 Q (m + 1) a W
  | 0, r, a, W, gs, hk, hs, h10, hgo, hrows, hap, hnW, hQ => by
    rw [rounds_succ]
    refine wp_seq (wp_seq (Rg.u3 hs.sz h10 hs.e0 ?_))
    intro a1 k1 e
    refine wp_cond_false (by rw [e, decide_eq_false (by omega)]) (wp_exit ?_)
    show Q (.exit 0) a1 W
    have er : r = t + 1 := by omega
    subst er
    exact hQ a1 W gs (k1.trans (Ev.Stay.refl [] _) (by decide) (by decide)) ⟨hgo, hrows, hap⟩ (Below.refl _ _) (fun i hi => Or.inr ⟨i, hi, rfl⟩)
  | m + 1, r, a, W, gs, hk, hs, h10, hgo, hrows, hap, hnW, hQ => by
    rw [rounds_succ]
    refine wp_seq (wp_seq (Rg.u3 hs.sz h10 hs.e0 ?_))
    intro a1 k1 e
    refine wp_cond_true (by rw [e, decide_eq_true (by omega)]) (wp_skip ?_)
    show Code.wp _ _ _ _ _
    have s1 := hs.of k1 (by decide)
    refine wp_seq (wp_block (Rg.u5 (go := go) (t := t) (r := r) (gs := gs) s1.sz s1.e0 s1.e9 ((k1.2.2 10 (by decide)).trans h10) ht (by omega) hgo ?_))
    intro a2 k2
    show Code.wp _ _ _ _ _
    have s2 := s1.of k2 (by decide)
    have hlt := blk_lt hgo
    have hg2 : (W.alloc (.cells (tab3 (t + 1) (fun _ => 0)) 3)).heap[go]? = some (.cells (rowsP (t + 1) r gs) 56 (0, 0)) := blk_alloc hgo _
    have hgo' := rowsP_set hg2 (by omega : r < t + 1) W.heap.size
    have hrows' : ∀ i, i < r + 1 → ((W.alloc (.cells (tab3 (t + 1) (fun _ => 0)) 3)).setCell ⟨go, r, none⟩ (.slice (some ⟨W.heap.size, 0, none⟩) (t + 1) (t + 1))).heap[(fun i => if i = r then W.heap.size else gs i) i]? = some (.cells (tab3 (t + 1) (fun _ => 0)) 3 (0, 0)) := by
      intro i hi
      by_cases e : i = r
      · show ((W.alloc _).setCell _ _).heap[if i = r then W.heap.size else gs i]? = _
        rw [if_pos e]
        exact (Below.heap_setCell _ ⟨go, r, none⟩ _ W.heap.size (by show W.heap.size ≠ go; omega)).trans (blk_new W _)
      · show ((W.alloc _).setCell _ _).heap[if i = r then W.heap.size else gs i]? = _
        rw [if_neg e]
        have h1 := hrows i (by omega)
        refine (Below.heap_setCell _ ⟨go, r, none⟩ _ (gs i) ?_).trans (blk_alloc h1 _)
        intro e2
        have e2 : gs i = go := e2
        rw [e2, hgo] at h1
        injection h1 with h1
        injection h1 with _ h3
        exact absurd h3 (by decide)
    have B' : Below n0 W ((W.alloc (.cells (tab3 (t + 1) (fun _ => 0)) 3)).setCell ⟨go, r, none⟩ (.slice (some ⟨W.heap.size, 0, none⟩) (t + 1) (t + 1))) := ((Below.refl n0 W).alloc hnW _).setCell (p := ⟨go, r, none⟩) hn0 _
    generalize ((W.alloc (.cells (tab3 (t + 1) (fun _ => 0)) 3)).setCell ⟨go, r, none⟩ (.slice (some ⟨W.heap.size, 0, none⟩) (t + 1) (t + 1))) = W2 at hgo' hrows' B' ⊢
    refine Rg.u4 (k := r) s2.sz ((k2.2.2 10 (by decide)).trans ((k1.2.2 10 (by decide)).trans h10)) (by omega) ?_
    intro a3 k3 e10
    show Code.rounds _ _ _ _ _ _
    have st : Ev.Stay Rf.L1 a a3 := (k1.trans k2 (L'' := Rf.L1) (by decide) (by decide)).trans k3 (by decide) (by decide)
    refine Rf.loop1 ht hn0 m (r + 1) a3 W2 _ (by omega) (s2.of k3 (by decide)) e10 hgo' hrows' ?_ (Nat.le_trans hnW B'.size) ?_
    · intro i j hi hj hij
      have low : ∀ i, i < r → gs i < W.heap.size := fun i hi => blk_lt (hrows i hi)
      have hij : (if i = r then W.heap.size else gs i) = (if j = r then W.heap.size else gs j) := hij
      by_cases ei : i = r
      · by_cases ej : j = r
        · omega
        · rw [if_pos ei, if_neg ej] at hij
          have := low j (by omega)
          omega
      · by_cases ej : j = r
        · rw [if_neg ei, if_pos ej] at hij
          have := low i (by omega)
          omega
        · rw [if_neg ei, if_neg ej] at hij
          exact hap i j (by omega) (by omega) hij
    · intro a' W' gs' st' hM hb hg
      refine hQ a' W' gs' (st.trans st' (fun _ h => h) (fun _ h => h)) hM (B'.trans hb) (fun i hi => ?_)
      rcases hg i hi with h | ⟨j, hj, e⟩
      · exact Or.inl h
      · have e : gs' i = if j = r then W.heap.size else gs j := e
        by_cases ej : j = r
        · rw [if_pos ej] at e
          exact Or.inl (by omega)
        · rw [if_neg ej] at e
          exact Or.inr ⟨j, by omega, e⟩
theorem Rf.loop2 {gs : Nat → Nat} (ht : t ≤ 3) (hp : 0 ≤ p ∧ p < 1024) (hl : 0 ≤ l ∧ l < 1024) (hP : Rg.PQ Q) (hgs : ∀ i, i < t + 1 → n0 ≤ gs i) : ∀ (m k : Nat) (a : Act) (W : World) (G : Nat → Nat → Int), k + m = t → Rf.St t go q p l a → a.eval (.tmp 11) = .int .i64 ((k + 1 : Nat) : Int) → Mx W go (t + 1) gs G → (∀ c, c ≤ k → G 0 c = F t q p l 0 c) → (∀ r, r ≤ k → G r 0 = F t q p l r 0) →
    (∀ a' W' G', Ev.Stay Rf.L2 a a' → Mx W' go (t + 1) gs G' → (∀ c, c ≤ t → G' 0 c = F t q p l 0 c) → (∀ r, r ≤ t → G' r 0 = F t q p l r 0) → Below n0 W W' → Q (.exit 2) a' W') → Code.rounds Try.prog Rf.body2 Q (m + 1) a W
  | 0, k, a, W, G, hk, hs, h11, hG, h1, h2, hQ => by
    rw [rounds_succ]
    refine wp_seq (wp_seq (Rg.u7 hs.sz h11 hs.e0 ?_))
    intro a1 k1 e
    refine wp_cond_false (by rw [e, decide_eq_false (by omega)]) (wp_exit ?_)
    show Q (.exit 2) a1 W
    have ek : k = t := by omega
    subst ek
    exact hQ a1 W G (k1.trans (Ev.Stay.refl [] _) (by decide) (by decide)) hG h1 h2 (Below.refl _ _)
  | m + 1, k, a, W, G, hk, hs, h11, hG, h1, h2, hQ => by
    rw [rounds_succ]
    refine wp_seq (wp_seq (Rg.u7 hs.sz h11 hs.e0 ?_))
    intro a1 k1 e
    refine wp_cond_true (by rw [e, decide_eq_true (by omega)]) (wp_skip ?_)
    show Code.wp _ _ _ _ _
    have s1 := hs.of k1 (by decide)
    have b0 := bitOf_bd p k hp.1 hp.2
    have f0 := F_bd (t := t) (q := q) hp hl 0 k
    have g0 := h1 k (Nat.le_refl _)
    have hGd : Mx W.drew go (t + 1) gs G := ⟨hG.top, hG.rows, hG.apart⟩
    refine wp_seq (wp_block (wp_seq (Rg.u9 (k := k) (bt := bitOf p k) (G := G) s1.sz (fun c a a' w hd h => hP c a a' w hd h) s1.e9 ((k1.2.2 11 (by decide)).trans h11) s1.e2 hGd ht (by omega) rfl b0 (by rw [g0]; omega) ?_)))
    intro a2 k2
    show Code.wp _ _ _ _ _
    have s2 := s1.of k2 (by decide)
    have hG2 := hGd.set (r := 0) (c := k + 1) (by omega) (G 0 k + bitOf p k)
    have B2 : Below n0 W (W.drew.setCell ⟨gs 0, k + 1, none⟩ (.int .i64 (G 0 k + bitOf p k))) := (below_drew1 (Below.refl _ _)).setCell (p := ⟨gs 0, k + 1, none⟩) (hgs 0 (by omega)) _
    generalize (W.drew.setCell ⟨gs 0, k + 1, none⟩ (.int .i64 (G 0 k + bitOf p k))) = W2 at hG2 B2 ⊢
    have b1 := bitOf_bd l k hl.1 hl.2
    have f1 := F_bd (t := t) (q := q) hp hl k 0
    have g1 : upd2 G 0 (k + 1) (G 0 k + bitOf p k) k 0 = F t q p l k 0 := by
      unfold upd2 upd
      by_cases e : k = 0
      · subst e
        rw [if_pos rfl]
        show (if 0 = 0 + 1 then _ else G 0 0) = _
        rw [if_neg (by decide)]; exact h2 0 (Nat.le_refl _)
      · rw [if_neg e]; exact h2 k (Nat.le_refl _)
    have hG2d : Mx W2.drew go (t + 1) gs (upd2 G 0 (k + 1) (G 0 k + bitOf p k)) := ⟨hG2.top, hG2.rows, hG2.apart⟩
    refine (Rg.u10 (k := k) (bt := bitOf l k) (G := upd2 G 0 (k + 1) (G 0 k + bitOf p k)) s2.sz (fun c a a' w hd h => hP c a a' w hd h) s2.e9 ((k2.2.2 11 (by decide)).trans ((k1.2.2 11 (by decide)).trans h11)) s2.e3 hG2d ht (by omega) rfl b1 (by rw [g1]; omega) ?_)
    intro a3 k3
    show Code.wp _ _ _ _ _
    have s3 := s2.of k3 (by decide)
    have hG3 := hG2d.set (r := k + 1) (c := 0) (by omega) (upd2 G 0 (k + 1) (G 0 k + bitOf p k) k 0 + bitOf l k)
    have B3 : Below n0 W2 (W2.drew.setCell ⟨gs (k + 1), 0, none⟩ (.int .i64 (upd2 G 0 (k + 1) (G 0 k + bitOf p k) k 0 + bitOf l k))) := (below_drew1 (Below.refl _ _)).setCell (p := ⟨gs (k + 1), 0, none⟩) (hgs (k + 1) (by omega)) _
    generalize (W2.drew.setCell ⟨gs (k + 1), 0, none⟩ (.int .i64 (upd2 G 0 (k + 1) (G 0 k + bitOf p k) k 0 + bitOf l k))) = W3 at hG3 B3 ⊢
    refine Rg.u8 (k := k + 1) s3.sz ((k3.2.2 11 (by decide)).trans ((k2.2.2 11 (by decide)).trans ((k1.2.2 11 (by decide)).trans h11))) (by omega) ?_
    intro a4 k4 e11
    show Code.rounds _ _ _ _ _ _
    have st : Ev.Stay Rf.L2 a a4 := ((k1.trans k2 (L'' := Rf.L2) (by decide) (by decide)).trans k3 (L'' := Rf.L2) (by decide) (by decide)).trans k4 (by decide) (by decide)
    refine Rf.loop2 ht hp hl hP hgs m (k + 1) a4 W3 _ (by omega) (s3.of k4 (by decide)) e11 hG3 ?_ ?_ ?_
    · intro c hc
      show (if 0 = k + 1 then _ else upd2 G 0 (k + 1) (G 0 k + bitOf p k) 0) c = _
      rw [if_neg (by omega)]
      show (if 0 = 0 then upd (G 0) (k + 1) (G 0 k + bitOf p k) else G 0) c = _
      rw [if_pos rfl]
      unfold upd
      by_cases e : c = k + 1
      · subst e
        rw [if_pos rfl, g0, F_0s]
      · rw [if_neg e]; exact h1 c (by omega)
    · intro r hr
      by_cases e : r = k + 1
      · subst e
        show (if k + 1 = k + 1 then upd _ 0 _ else _) 0 = _
        rw [if_pos rfl]
        unfold upd
        rw [if_pos rfl, g1, F_s0]
      · show (if r = k + 1 then _ else upd2 G 0 (k + 1) (G 0 k + bitOf p k) r) 0 = _
        rw [if_neg e]
        show (if r = 0 then upd (G 0) (k + 1) (G 0 k + bitOf p k) else G r) 0 = _
        by_cases e0 : r = 0
        · subst e0
          rw [if_pos rfl]
          unfold upd
          rw [if_neg (by omega)]; exact h2 0 (by omega)
        · rw [if_neg e0]; exact h2 r (by omega)
    · intro a' W' G' st' hG' h1' h2' hb
      exact hQ a' W' G' (st.trans st' (fun _ h => h) (fun _ h => h)) hG' h1' h2' ((B2.trans B3).trans hb)
end
def Rf.Has (t : Nat) (q p l : Int) (r k : Nat) (G : Nat → Nat → Int) : Prop := (∀ r', r' ≤ r → ∀ c, c ≤ t → G r' c = F t q p l r' c) ∧ (∀ r', r' ≤ t → G r' 0 = F t q p l r' 0) ∧ ∀ c, c ≤ k → G (r + 1) c = F t q p l (r + 1) c
section
variable {t go n0 : Nat} {q p l : Int} {Q : Exit → Act → World → Prop}
theorem Rf.has_next {r k : Nat} {G : Nat → Nat → Int} {x : Int} (h : Rf.Has t q p l r k G) (hk : k < t) (hx : x = F t q p l (r + 1) (k + 1)) : Rf.Has t q p l r (k + 1) (upd2 G (r + 1) (k + 1) x) := by
  obtain ⟨h1, h2, h3⟩ := h
  refine ⟨fun r' hr c hc => ?_, fun r' hr => ?_, fun c hc => ?_⟩
  · show (if r' = r + 1 then _ else G r') c = _
    rw [if_neg (by omega)]; exact h1 r' hr c hc
  · show (if r' = r + 1 then upd (G (r + 1)) (k + 1) x else G r') 0 = _
    by_cases e : r' = r + 1
    · rw [if_pos e]
      show (if 0 = k + 1 then x else G (r + 1) 0) = _
      rw [if_neg (by omega), e]; exact h2 (r + 1) (by omega)
    · rw [if_neg e]; exact h2 r' hr
  · show (if r + 1 = r + 1 then upd (G (r + 1)) (k + 1) x else G (r + 1)) c = _
    rw [if_pos rfl]
    show (if c = k + 1 then x else G (r + 1) c) = _
    by_cases e : c = k + 1
    · rw [if_pos e, e]; exact hx
    · rw [if_neg e]; exact h3 c (by omega)
theorem Rf.loop4 {gs : Nat → Nat} (ht : t ≤ 3) (hq : 0 ≤ q ∧ q < 1024) (hp : 0 ≤ p ∧ p < 1024) (hl : 0 ≤ l ∧ l < 1024) (hP : Rg.PQ Q) (hgs : ∀ i, i < t + 1 → n0 ≤ gs i) {r : Nat} (hr : r < t) : ∀ (m k : Nat) (a : Act) (W : World) (G : Nat → Nat → Int), k + m = t → Rf.St t go q p l a → a.eval (.tmp 12) = .int .i64 ((r + 1 : Nat) : Int) → a.eval (.tmp 13) = .int .i64 ((k + 1 : Nat) : Int) → Mx W go (t + 1) gs G → Rf.Has t q p l r k G →
    (∀ a' W' G', Ev.Stay Rf.L4 a a' → Mx W' go (t + 1) gs G' → Rf.Has t q p l r t G' → Below n0 W W' → Q (.exit 6) a' W') → Code.rounds Try.prog Rf.body4 Q (m + 1) a W
  | 0, k, a, W, G, hk, hs, h12, h13, hG, hA, hQ => by
    rw [rounds_succ]
    refine wp_seq (wp_seq (Rg.u15 hs.sz h13 hs.e0 ?_))
    intro a1 k1 e
    refine wp_cond_false (by rw [e, decide_eq_false (by omega)]) (wp_exit ?_)
    show Q (.exit 6) a1 W
    have ek : k = t := by omega
    subst ek
    exact hQ a1 W G (k1.trans (Ev.Stay.refl [] _) (by decide) (by decide)) hG hA (Below.refl _ _)
  | m + 1, k, a, W, G, hk, hs, h12, h13, hG, hA, hQ => by
    rw [rounds_succ]
    refine wp_seq (wp_seq (Rg.u15 hs.sz h13 hs.e0 ?_))
    intro a1 k1 e
    refine wp_cond_true (by rw [e, decide_eq_true (by omega)]) (wp_skip ?_)
    show Code.wp _ _ _ _ _
    have s1 := hs.of k1 (by decide)
    have hm : ((r * t : Nat) : Int) = (r : Int) * (t : Int) ∧ (r * t : Nat) < 32 := ⟨by simp, by
      have : r * t ≤ 3 * 3 := Nat.mul_le_mul (by omega) (by omega)
      omega⟩
    refine wp_seq (wp_block (wp_seq (Rg.u17 (r := r) (c := k) (bt := bitOf q (r * t + k)) s1.sz s1.e0 s1.e1 ((k1.2.2 12 (by decide)).trans h12) ((k1.2.2 13 (by decide)).trans h13) (by omega) hm (by omega) rfl ?_)))
    intro a2 k2 e92
    show Code.wp _ _ _ _ _
    have s2 := s1.of k2 (by decide)
    have e12 : a2.eval (.tmp 12) = .int .i64 ((r + 1 : Nat) : Int) := (k2.2.2 12 (by decide)).trans ((k1.2.2 12 (by decide)).trans h12)
    have e13 : a2.eval (.tmp 13) = .int .i64 ((k + 1 : Nat) : Int) := (k2.2.2 13 (by decide)).trans ((k1.2.2 13 (by decide)).trans h13)
    have st2 : Ev.Stay Rf.L4 a a2 := k1.trans k2 (by decide) (by decide)
    have hGd : Mx W.drew go (t + 1) gs G := ⟨hG.top, hG.rows, hG.apart⟩
    have next : ∀ (a3 : Act) (x : Int), Ev.Stay Rf.L4 a a3 → Rf.St t go q p l a3 → a3.eval (.tmp 13) = .int .i64 ((k + 1 : Nat) : Int) → x = F t q p l (r + 1) (k + 1) → Code.wp Try.prog (Rf.R 16) (Exit.then (Code.rounds Try.prog Rf.body4 Q (m + 1)) Q) a3 (W.drew.setCell ⟨gs (r + 1), k + 1, none⟩ (.int .i64 x)) := by
      intro a3 x st3 s3 e13 hx
      have hG3 := hGd.set (r := r + 1) (c := k + 1) (by omega) x
      have B3 : Below n0 W (W.drew.setCell ⟨gs (r + 1), k + 1, none⟩ (.int .i64 x)) := (below_drew1 (Below.refl _ _)).setCell (p := ⟨gs (r + 1), k + 1, none⟩) (hgs (r + 1) (by omega)) _
      generalize (W.drew.setCell ⟨gs (r + 1), k + 1, none⟩ (.int .i64 x)) = W3 at hG3 B3 ⊢
      refine Rg.u16 (k := k + 1) s3.sz e13 (by omega) ?_
      intro a4 k4 e13b
      show Code.rounds _ _ _ _ _ _
      have st4 : Ev.Stay Rf.L4 a a4 := st3.trans k4 (fun _ h => h) (by decide)
      refine Rf.loop4 ht hq hp hl hP hgs hr m (k + 1) a4 W3 _ (by omega) (s3.of k4 (by decide)) ((st4.2.2 12 (by decide)).trans h12) e13b hG3 (Rf.has_next hA (by omega) hx) ?_
      intro a' W' G' st' hG' hA' hb
      exact hQ a' W' G' (st4.trans st' (fun _ h => h) (fun _ h => h)) hG' hA' (B3.trans hb)
    have v1 := hA.1 r (Nat.le_refl _) k (by omega)
    have v2 := hA.1 r (Nat.le_refl _) (k + 1) (by omega)
    have v3 := hA.2.2 k (Nat.le_refl _)
    have bd := F_bd (t := t) (q := q) hp hl r k
    by_cases hb : bitOf q (r * t + k) = 1
    · refine wp_cond_true (by rw [e92, hb]; rfl) ?_
      refine Rg.u18 (r := r) (c := k) (G := G) s2.sz (fun c a a' w hd h => hP c a a' w hd h) s2.e9 e12 e13 hGd ht hr (by omega) (by rw [v1]; omega) ?_
      intro a3 k3
      exact next a3 _ (st2.trans k3 (fun _ h => h) (by decide)) (s2.of k3 (by decide)) ((k3.2.2 13 (by decide)).trans e13) (by rw [v1, F_ss, if_pos hb])
    · refine wp_cond_false (by rw [e92]; congr 1; simpa using hb) ?_
      refine Rg.u19 (r := r) (c := k) (G := G) s2.sz (fun c a a' w hd h => hP c a a' w hd h) s2.e9 e12 e13 hGd ht hr (by omega) ?_
      intro a3 k3
      exact next a3 _ (st2.trans k3 (fun _ h => h) (by decide)) (s2.of k3 (by decide)) ((k3.2.2 13 (by decide)).trans e13) (by rw [v2, v3, F_ss, if_neg hb])
theorem Rf.loop3 {gs : Nat → Nat} (ht : t ≤ 3) (hq : 0 ≤ q ∧ q < 1024) (hp : 0 ≤ p ∧ p < 1024) (hl : 0 ≤ l ∧ l < 1024) (hP : Rg.PQ Q) (hgs : ∀ i, i < t + 1 → n0 ≤ gs i) : ∀ (m r : Nat) (a : Act) (W : World) (G : Nat → Nat → Int), r + m = t → Rf.St t go q p l a → a.eval (.tmp 12) = .int .i64 ((r + 1 : Nat) : Int) → Mx W go (t + 1) gs G → (∀ r', r' ≤ r → ∀ c, c ≤ t → G r' c = F t q p l r' c) → (∀ r', r' ≤ t → G r' 0 = F t q p l r' 0) →
    (∀ a' W' G', Ev.Stay Rf.L3 a a' → Mx W' go (t + 1) gs G' → (∀ r', r' ≤ t → ∀ c, c ≤ t → G' r' c = F t q p l r' c) → Below n0 W W' → Q (.exit 4) a' W') → Code.rounds Try.prog Rf.body3 Q (m + 1) a W
  | 0, r, a, W, G, hk, hs, h12, hG, h1, h2, hQ => by
    rw [rounds_succ]
    refine wp_seq (wp_seq (Rg.u12 hs.sz h12 hs.e0 ?_))
    intro a1 k1 e
    refine wp_cond_false (by rw [e, decide_eq_false (by omega)]) (wp_exit ?_)
    show Q (.exit 4) a1 W
    have er : r = t := by omega
    subst er
    exact hQ a1 W G (k1.trans (Ev.Stay.refl [] _) (by decide) (by decide)) hG h1 (Below.refl _ _)
  | m + 1, r, a, W, G, hk, hs, h12, hG, h1, h2, hQ => by
    rw [rounds_succ]
    refine wp_seq (wp_seq (Rg.u12 hs.sz h12 hs.e0 ?_))
    intro a1 k1 e
    refine wp_cond_true (by rw [e, decide_eq_true (by omega)]) (wp_skip ?_)
    show Code.wp _ _ _ _ _
    have s1 := hs.of k1 (by decide)
    refine wp_seq (wp_block (wp_seq (Rg.u14 s1.sz ?_)))
    intro a2 k2 e13
    have s2 := s1.of k2 (by decide)
    refine wp_block (wp_loop_rounds (t + 1) ?_)
    refine Rf.loop4 ht hq hp hl ?hP hgs (r := r) (by omega) t 0 a2 W G (by omega) s2 ((k2.2.2 12 (by decide)).trans ((k1.2.2 12 (by decide)).trans h12)) e13 hG ⟨h1, h2, fun c hc => ?h0⟩ ?_
    case hP => exact fun c a a' w hd h => hP c a a' w hd h
    case h0 =>
      have : c = 0 := by omega
      subst this
      exact h2 (r + 1) (by omega)
    intro a3 W3 G3 k3 hG3 hA3 b3
    show Code.wp _ _ _ _ _
    have s3 := s2.of k3 (by decide)
    refine Rg.u13 (k := r + 1) s3.sz ((k3.2.2 12 (by decide)).trans ((k2.2.2 12 (by decide)).trans ((k1.2.2 12 (by decide)).trans h12))) (by omega) ?_
    intro a4 k4 e12
    show Code.rounds _ _ _ _ _ _
    have st : Ev.Stay Rf.L3 a a4 := ((k1.trans k2 (L'' := Rf.L3) (by decide) (by decide)).trans k3 (L'' := Rf.L3) (by decide) (by decide)).trans k4 (by decide) (by decide)
    refine Rf.loop3 ht hq hp hl hP hgs m (r + 1) a4 W3 G3 (by omega) (s3.of k4 (by decide)) e12 hG3 ?_ hA3.2.1 ?_
    · intro r' hr' c hc
      by_cases e : r' = r + 1
      · subst e; exact hA3.2.2 c hc
      · exact hA3.1 r' (by omega) c hc
    · intro a' W' G' st' hG' h1' hb
      exact hQ a' W' G' (st.trans st' (fun _ h => h) (fun _ h => h)) hG' h1' (b3.trans hb)
end
theorem Rf.res {a : Act} {W : World} {v : Value} (h8 : a.eval (.tmp 8) = v) : (results Try.f19 a.tmps).run Try.prog W = .ok v W := by
  have e8 : a.tmps[8]?.getD undef = v := by simpa [Act.eval] using h8
  simp [results, Try.results19, go_sem, e8]
theorem refSquare {t : Nat} {q p l : Int} (ht : t ≤ 3) (hq : 0 ≤ q ∧ q < 1024) (hp : 0 ≤ p ∧ p < 1024) (hl : 0 ≤ l ∧ l < 1024) (w : World) :
    Calls Try.prog 19 #[.int .i64 (t : Int), .int .i64 q, .int .i64 p, .int .i64 l] w fun e w' => ∃ go gs G, e = .returned (.slice (some ⟨go, 0, none⟩) (t + 1) (t + 1)) ∧ Mx w' go (t + 1) gs G ∧ (∀ r, r ≤ t → ∀ c, c ≤ t → G r c = F t q p l r c) ∧ Below w.heap.size w w' := by
  refine calls_of_wp Try.func19 rfl ?_
  show Rf.code19.wp _ _ _ _
  generalize hR : (fun (e : Ending) (w' : World) => ∃ go gs G, e = .returned (.slice (some ⟨go, 0, none⟩) (t + 1) (t + 1)) ∧ Mx w' go (t + 1) gs G ∧ (∀ r, r ≤ t → ∀ c, c ≤ t → G r c = F t q p l r c) ∧ Below w.heap.size w w') = R
  have hP : Rg.PQ (bodyPost Try.prog Try.f19 R) := fun c a a' w hd h => ⟨hd.trans h.1, h.2⟩
  obtain ⟨a0, ha0⟩ : ∃ a0 : Act, a0 = { tmps := #[.int .i64 (t : Int), .int .i64 q, .int .i64 p, .int .i64 l] ++ Array.replicate (Try.f19.ntmps - (#[.int .i64 (t : Int), .int .i64 q, .int .i64 p, .int .i64 l] : Array Value).size) undef, defers := [] } := ⟨_, rfl⟩
  have hsz : a0.tmps.size = 133 := by rw [ha0]; simp [Try.ntmps19]
  have e0 : a0.eval (.tmp 0) = .int .i64 (t : Int) := by rw [ha0]; exact Ev.entry rfl
  have e1 : a0.eval (.tmp 1) = .int .i64 q := by rw [ha0]; exact Ev.entry rfl
  have e2 : a0.eval (.tmp 2) = .int .i64 p := by rw [ha0]; exact Ev.entry rfl
  have e3 : a0.eval (.tmp 3) = .int .i64 l := by rw [ha0]; exact Ev.entry rfl
  have hd0 : a0.defers = [] := by rw [ha0]
  rw [← ha0]
  clear ha0
  refine wp_seq (Rg.u0 hsz ?_)
  intro a1 k1
  refine wp_seq (Rg.u1 (k1.1.trans hsz) ((k1.2.2 0 (by decide)).trans e0) ht ?_)
  intro a2 k2 e9
  have st2 : Rf.St t w.heap.size q p l a2 := ⟨k2.1.trans (k1.1.trans hsz), (k2.2.2 0 (by decide)).trans ((k1.2.2 0 (by decide)).trans e0), (k2.2.2 1 (by decide)).trans ((k1.2.2 1 (by decide)).trans e1), (k2.2.2 2 (by decide)).trans ((k1.2.2 2 (by decide)).trans e2), (k2.2.2 3 (by decide)).trans ((k1.2.2 3 (by decide)).trans e3), e9⟩
  have hgo : (w.alloc (.cells (rowsP (t + 1) 0 (fun _ => 0)) 56)).heap[w.heap.size]? = some (.cells (rowsP (t + 1) 0 (fun _ => 0)) 56 (0, 0)) := blk_new w _
  have hb : Below w.heap.size w (w.alloc (.cells (rowsP (t + 1) 0 (fun _ => 0)) 56)) := below_alloc (Below.refl _ _) _
  have hd2 : a2.defers = [] := k2.2.1.trans (k1.2.1.trans hd0)
  clear k1 k2
  show Code.wp _ _ _ _ _
  generalize (w.alloc (.cells (rowsP (t + 1) 0 (fun _ => 0)) 56)) = W at hgo hb ⊢
  refine wp_seq (wp_seq (Rg.u2 st2.sz ?_))
  intro a3 k3 e10
  have st3 := st2.of k3 (by decide)
  refine wp_block (wp_loop_rounds (t + 1 + 1) ?_)
  refine Rf.loop1 (n0 := w.heap.size) ht (Nat.le_refl _) (t + 1) 0 a3 W (fun _ => 0) (by omega) st3 e10 hgo (fun i hi => absurd hi (Nat.not_lt_zero _)) (fun i j hi => absurd hi (Nat.not_lt_zero _)) hb.size ?_
  intro a4 W4 gs k4 hM4 b4 hg4
  show Code.wp _ _ _ _ _
  have hgs : ∀ i, i < t + 1 → w.heap.size ≤ gs i := fun i hi => (hg4 i hi).elim (fun h => h) (fun ⟨j, hj, _⟩ => absurd hj (Nat.not_lt_zero _))
  have st4 := st3.of k4 (by decide)
  refine wp_seq (wp_seq (Rg.u6 st4.sz ?_))
  intro a5 k5 e11
  have st5 := st4.of k5 (by decide)
  refine wp_block (wp_loop_rounds (t + 1) ?_)
  refine Rf.loop2 (n0 := w.heap.size) (gs := gs) ht hp hl ?hP2 hgs t 0 a5 W4 (fun _ _ => 0) (by omega) st5 e11 hM4 (fun c hc => ?h1) (fun r hr => ?h2) ?_
  case hP2 => exact fun c a a' w hd h => hP c a a' w hd h
  case h1 =>
    have e : c = 0 := by omega
    subst e; rfl
  case h2 =>
    have e : r = 0 := by omega
    subst e; rfl
  intro a6 W6 G6 k6 hM6 h1 h2 b6
  show Code.wp _ _ _ _ _
  have st6 := st5.of k6 (by decide)
  refine wp_seq (wp_seq (Rg.u11 st6.sz ?_))
  intro a7 k7 e12
  have st7 := st6.of k7 (by decide)
  refine wp_block (wp_loop_rounds (t + 1) ?_)
  refine Rf.loop3 (n0 := w.heap.size) (gs := gs) ht hq hp hl ?hP3 hgs t 0 a7 W6 G6 (by omega) st7 e12 hM6 (fun r hr c hc => ?h3) h2 ?_
  case hP3 => exact fun c a a' w hd h => hP c a a' w hd h
  case h3 =>
    have e : r = 0 := by omega
    subst e
    exact h1 c hc
  intro a8 W8 G8 k8 hM8 h8 b8
  show Code.wp _ _ _ _ _
  have st8 := st7.of k8 (by decide)
  refine wp_seq (Rg.u20 st8.sz st8.e9 ?_)
  intro a9 k9 f8
  refine wp_ret ⟨k9.2.1.trans (k8.2.1.trans (k7.2.1.trans (k6.2.1.trans (k5.2.1.trans (k4.2.1.trans (k3.2.1.trans hd2)))))), _, Rf.res f8, ?_⟩
  rw [← hR]
  exact ⟨w.heap.size, gs, G8, rfl, hM8, h8, hb.trans (b4.trans (b6.trans b8))⟩
end Go.Proofs.Ytfldkfccdjdofaa.Tile
