/- russ.lines: what it computes. -/
import Derived.Test.YtpdjdffimighkaaZHRs
namespace Go.Proofs.Ytpdjdffimighkaa.Tile
open Go.RowKit Go.Proofs.Ytpdjdffimighkaa.PRussRuns Go.Proofs.YtpdjdffimighkaaW.PrintWords Go.Proofs.YtpdjdffimighkaaW.PrintLast Go.Proofs.YtpdjdffimighkaaW.PrintMore
set_option linter.unusedVariables false
set_option linter.unusedSimpArgs false
theorem Ev.load56 {W : World} {p : Addr} {v : Value} (hc : W.cell? p = some v) : (Instr.loadAt 31 (.pointer (some p))).run Try.prog W = .ok v W := by
  go_simp
/-- A row of numbers. -/
def tab3 (n : Nat) (H : Nat → Int) : Array Value := ((List.range n).map fun i => Value.int .i64 (H i)).toArray
theorem tab3_set {W : World} {g N : Nat} {H : Nat → Int} {i : Nat} (h : W.heap[g]? = some (.cells (tab3 N H) 3 (0, 0))) (x : Int) : (W.setCell ⟨g, i, none⟩ (.int .i64 x)).heap[g]? = some (.cells (tab3 N (upd H i x)) 3 (0, 0)) := by
  have h1 := blk_set h i (.int .i64 x)
  rw [h1]
  congr 2
  unfold tab3
  apply Array.ext
  · simp
  · intro j h1 h2
    simp at h1 h2
    simp [Array.getElem_setIfInBounds, upd]
    by_cases e : i = j
    · subst e; simp
    · rw [List.getElem_set_ne e, if_neg (fun q => e q.symm)]
      simp
theorem run_row (w : World) (N : Nat) (hN : N ≤ 32768) : (Instr.makeSlice 31 (.int .i64 (N : Int)) (.int .i64 (N : Int))).run Try.prog w = .ok (.slice (some ⟨w.heap.size, 0, none⟩) N N) (w.alloc (.cells (tab3 N (fun _ => 0)) 3)) := by
  have h : (Try.prog.info? 3).map (fun i => (i.zero, i.size, i.bytes)) = some (some (.int .i64 0), 1, 8) := by kernel_rfl
  obtain ⟨i, hi, h0, h1, h2⟩ := info_parts h
  have := run_makeSlice (P := Try.prog) w 31 3 i (.int .i64 0) Try.underlying31 hi h0 .i64 .i64 (N : Int) (N : Int) (by omega) (by omega) (by rw [h1]; simp; omega) (by rw [h2]; simp; omega) (by omega)
  rw [this, Int.toNat_natCast, h1, Nat.mul_one]
  congr 3
  unfold madeCells tab3
  apply Array.ext
  · simp
  · intro j h1 h2
    simp [Value.cells, Nat.mod_one]
theorem tab3_cell {W : World} {g N : Nat} {H : Nat → Int} {i : Nat} (h : W.heap[g]? = some (.cells (tab3 N H) 3 (0, 0))) (hi : i < N) : W.cell? ⟨g, i, none⟩ = some (.int .i64 (H i)) := (blk_cell h i).trans (by simp [tab3, hi])
set_option maxHeartbeats 2000000 in
theorem Rg.l0 {id : Nat} {Q : Exit → Act → World → Prop} {a : Act} {W : World} 
    (hsz : a.tmps.size = 71)  
    (hQ : ∀ a', Ev.Stay [6] a a' → Q .normal a' (W)) : (Code.region id (Ru.ops 20 0) false).wp Try.prog Q a W := by
  refine wp_region_list ?_
  show wpList _ _ _ (_ :: []) _ _
  have k0 : Ev.Stay [6] a a := Ev.Stay.refl [6] a
  refine Ev.pv (N := 6) (v := .slice none 0 0) (W' := W) ?_ rfl rfl ?_
  · have ec0 : a.eval (.const (.slice none 0 0)) = .slice none 0 0 := rfl
    unfold execOp
    generalize a.eval = ev at *
    go_simp
  obtain ⟨a1, qa1⟩ : ∃ z_, z_ = a.put (some 6) (.slice none 0 0) := ⟨_, rfl⟩
  have k1 : Ev.Stay [6] a a1 := by rw [qa1]; exact k0.put (by decide) _
  have e1_6 := Ev.sam qa1 (by rw [k0.1, hsz]; decide)
  rw [← qa1]
  clear qa1 
  exact hQ _ k1 
set_option maxHeartbeats 2000000 in
theorem Rg.l1 {id : Nat} {Q : Exit → Act → World → Prop} {a : Act} {W : World} {g wd : Nat} {A2 : Option Addr} {c2 : Nat} {lb : List Int} {RR : Value → World → Prop}
    (hsz : a.tmps.size = 71)  (h1 : a.eval (.tmp 1) = .slice A2 lb.length c2) (h2 : a.eval (.tmp 2) = .slice (some ⟨g, 0, none⟩) wd wd) (hm : lb.length ≤ wd) (g1 : Calls Try.prog 26 #[.int .i64 (0), .slice (some ⟨g, 0, none⟩) lb.length wd] W fun e w' => ∃ v, e = .returned v ∧ RR v w')
    (hQ : ∀ a' v W', Ev.Stay [14, 15, 16, 17, 18, 7] a a' → a'.eval (.tmp 7) = v → RR v W' → Q .normal a' W') : (Code.region id (Ru.ops 20 1) false).wp Try.prog Q a W := by
  refine wp_region_list ?_
  show wpList _ _ _ (_ :: _ :: _ :: _ :: _ :: _ :: []) _ _
  have k0 : Ev.Stay [14, 15, 16, 17, 18, 7] a a := Ev.Stay.refl [14, 15, 16, 17, 18, 7] a
  refine Ev.pv (N := 14) (v := .slice (some ⟨g, 0, none⟩) wd wd) (W' := W) ?_ rfl rfl ?_
  · unfold execOp
    generalize a.eval = ev at *
    go_simp
  obtain ⟨a1, qa1⟩ : ∃ z_, z_ = a.put (some 14) (.slice (some ⟨g, 0, none⟩) wd wd) := ⟨_, rfl⟩
  have k1 : Ev.Stay [14, 15, 16, 17, 18, 7] a a1 := by rw [qa1]; exact k0.put (by decide) _
  have e1_1 := Ev.oth qa1 (by decide) h1
  have e1_2 := Ev.oth qa1 (by decide) h2
  have e1_14 := Ev.sam qa1 (by rw [k0.1, hsz]; decide)
  rw [← qa1]
  clear qa1 
  refine Ev.pv (N := 15) (v := .slice A2 lb.length c2) (W' := W) ?_ rfl rfl ?_
  · unfold execOp
    generalize a1.eval = ev at *
    go_simp
  obtain ⟨a2, qa2⟩ : ∃ z_, z_ = a1.put (some 15) (.slice A2 lb.length c2) := ⟨_, rfl⟩
  have k2 : Ev.Stay [14, 15, 16, 17, 18, 7] a a2 := by rw [qa2]; exact k1.put (by decide) _
  have e2_1 := Ev.oth qa2 (by decide) e1_1
  have e2_2 := Ev.oth qa2 (by decide) e1_2
  have e2_14 := Ev.oth qa2 (by decide) e1_14
  have e2_15 := Ev.sam qa2 (by rw [k1.1, hsz]; decide)
  rw [← qa2]
  clear qa2 e1_1 e1_2 e1_14
  refine Ev.pv (N := 16) (v := .int .i64 (lb.length : Int)) (W' := W) ?_ rfl rfl ?_
  · unfold execOp
    generalize a2.eval = ev at *
    go_simp
  obtain ⟨a3, qa3⟩ : ∃ z_, z_ = a2.put (some 16) (.int .i64 (lb.length : Int)) := ⟨_, rfl⟩
  have k3 : Ev.Stay [14, 15, 16, 17, 18, 7] a a3 := by rw [qa3]; exact k2.put (by decide) _
  have e3_1 := Ev.oth qa3 (by decide) e2_1
  have e3_2 := Ev.oth qa3 (by decide) e2_2
  have e3_14 := Ev.oth qa3 (by decide) e2_14
  have e3_15 := Ev.oth qa3 (by decide) e2_15
  have e3_16 := Ev.sam qa3 (by rw [k2.1, hsz]; decide)
  rw [← qa3]
  clear qa3 e2_1 e2_2 e2_14 e2_15
  clear e3_15
  refine Ev.pv (N := 17) (v := .slice (some ⟨g, 0, none⟩) lb.length wd) (W' := W) ?_ rfl rfl ?_
  · have hm_ := hm
    have hm2_ : (lb.length : Int) ≤ (wd : Int) := by omega
    have hm3_ : (0 : Int) ≤ (lb.length : Int) := by omega
    unfold execOp
    generalize a3.eval = ev at *
    go_simp
  obtain ⟨a4, qa4⟩ : ∃ z_, z_ = a3.put (some 17) (.slice (some ⟨g, 0, none⟩) lb.length wd) := ⟨_, rfl⟩
  have k4 : Ev.Stay [14, 15, 16, 17, 18, 7] a a4 := by rw [qa4]; exact k3.put (by decide) _
  have e4_1 := Ev.oth qa4 (by decide) e3_1
  have e4_2 := Ev.oth qa4 (by decide) e3_2
  have e4_14 := Ev.oth qa4 (by decide) e3_14
  have e4_16 := Ev.oth qa4 (by decide) e3_16
  have e4_17 := Ev.sam qa4 (by rw [k3.1, hsz]; decide)
  rw [← qa4]
  clear qa4 e3_1 e3_2 e3_14 e3_16
  clear e4_14
  clear e4_16
  refine Ev.pc (N := 18) (f := 26) (args := #[.int .i64 (0), .slice (some ⟨g, 0, none⟩) lb.length wd]) ?_ rfl rfl (g1.mono ?_)
  · have ef : a4.eval (.func 26) = .func (.func 26) #[] #[] := rfl
    have ec0 : a4.eval (.const (.int .i64 (0))) = .int .i64 (0) := rfl
    unfold execOp
    generalize a4.eval = ev at *
    go_simp
  rintro e_ w_ ⟨v, rfl, hR⟩
  refine ⟨_, rfl, ?_⟩
  obtain ⟨a5, qa5⟩ : ∃ z_, z_ = a4.put (some 18) (v) := ⟨_, rfl⟩
  have k5 : Ev.Stay [14, 15, 16, 17, 18, 7] a a5 := by rw [qa5]; exact k4.put (by decide) _
  have e5_1 := Ev.oth qa5 (by decide) e4_1
  have e5_2 := Ev.oth qa5 (by decide) e4_2
  have e5_17 := Ev.oth qa5 (by decide) e4_17
  have e5_18 := Ev.sam qa5 (by rw [k4.1, hsz]; decide)
  rw [← qa5]
  clear qa5 e4_1 e4_2 e4_17
  clear g1
  refine Ev.pv (N := 7) (v := v) (W' := w_) ?_ rfl rfl ?_
  · unfold execOp
    generalize a5.eval = ev at *
    (simp [go_sem, *])
  obtain ⟨a6, qa6⟩ : ∃ z_, z_ = a5.put (some 7) (v) := ⟨_, rfl⟩
  have k6 : Ev.Stay [14, 15, 16, 17, 18, 7] a a6 := by rw [qa6]; exact k5.put (by decide) _
  have e6_1 := Ev.oth qa6 (by decide) e5_1
  have e6_2 := Ev.oth qa6 (by decide) e5_2
  have e6_17 := Ev.oth qa6 (by decide) e5_17
  have e6_18 := Ev.oth qa6 (by decide) e5_18
  have e6_7 := Ev.sam qa6 (by rw [k5.1, hsz]; decide)
  rw [← qa6]
  clear qa6 e5_1 e5_2 e5_17 e5_18
  exact hQ _ _ _ k6 e6_7 hR
set_option maxHeartbeats 2000000 in
theorem Rg.l2 {id : Nat} {Q : Exit → Act → World → Prop} {a : Act} {W : World} {g m cap : Nat}
    (hsz : a.tmps.size = 71)  (h7 : a.eval (.tmp 7) = .slice (some ⟨g, 0, none⟩) (m + 1) cap)
    (hQ : ∀ a', Ev.Stay [19, 20, 8] a a' → a'.eval (.tmp 8) = .slice (some ⟨W.heap.size, 0, none⟩) 1 1 → Q .normal a' (W.alloc (.cells #[.slice (some ⟨g, 0, none⟩) (m + 1) cap] 31))) : (Code.region id (Ru.ops 20 2) false).wp Try.prog Q a W := by
  refine wp_region_list ?_
  show wpList _ _ _ (_ :: _ :: _ :: []) _ _
  have k0 : Ev.Stay [19, 20, 8] a a := Ev.Stay.refl [19, 20, 8] a
  refine Ev.pv (N := 19) (v := .slice (some ⟨g, 0, none⟩) (m + 1) cap) (W' := W) ?_ rfl rfl ?_
  · unfold execOp
    generalize a.eval = ev at *
    go_simp
  obtain ⟨a1, qa1⟩ : ∃ z_, z_ = a.put (some 19) (.slice (some ⟨g, 0, none⟩) (m + 1) cap) := ⟨_, rfl⟩
  have k1 : Ev.Stay [19, 20, 8] a a1 := by rw [qa1]; exact k0.put (by decide) _
  have e1_7 := Ev.oth qa1 (by decide) h7
  have e1_19 := Ev.sam qa1 (by rw [k0.1, hsz]; decide)
  rw [← qa1]
  clear qa1 
  refine Ev.pv (N := 20) (v := .slice (some ⟨W.heap.size, 0, none⟩) 1 1) (W' := W.alloc (.cells #[.slice (some ⟨g, 0, none⟩) (m + 1) cap] 31)) ?_ rfl rfl ?_
  · unfold execOp
    generalize a1.eval = ev at *
    go_simp
  obtain ⟨a2, qa2⟩ : ∃ z_, z_ = a1.put (some 20) (.slice (some ⟨W.heap.size, 0, none⟩) 1 1) := ⟨_, rfl⟩
  have k2 : Ev.Stay [19, 20, 8] a a2 := by rw [qa2]; exact k1.put (by decide) _
  have e2_7 := Ev.oth qa2 (by decide) e1_7
  have e2_19 := Ev.oth qa2 (by decide) e1_19
  have e2_20 := Ev.sam qa2 (by rw [k1.1, hsz]; decide)
  rw [← qa2]
  clear qa2 e1_7 e1_19
  clear e2_19
  refine Ev.pv (N := 8) (v := .slice (some ⟨W.heap.size, 0, none⟩) 1 1) (W' := W.alloc (.cells #[.slice (some ⟨g, 0, none⟩) (m + 1) cap] 31)) ?_ rfl rfl ?_
  · unfold execOp
    generalize a2.eval = ev at *
    go_simp
  obtain ⟨a3, qa3⟩ : ∃ z_, z_ = a2.put (some 8) (.slice (some ⟨W.heap.size, 0, none⟩) 1 1) := ⟨_, rfl⟩
  have k3 : Ev.Stay [19, 20, 8] a a3 := by rw [qa3]; exact k2.put (by decide) _
  have e3_7 := Ev.oth qa3 (by decide) e2_7
  have e3_20 := Ev.oth qa3 (by decide) e2_20
  have e3_8 := Ev.sam qa3 (by rw [k2.1, hsz]; decide)
  rw [← qa3]
  clear qa3 e2_7 e2_20
  exact hQ _ k3 e3_8
set_option maxHeartbeats 2000000 in
theorem Rg.l3 {id : Nat} {Q : Exit → Act → World → Prop} {a : Act} {W : World} {A1 : Option Addr} {c1 : Nat} {xs : List Int}
    (hsz : a.tmps.size = 71)  (h0 : a.eval (.tmp 0) = .slice A1 xs.length c1)
    (hQ : ∀ a', Ev.Stay [21, 22, 23] a a' → a'.eval (.tmp 21) = .slice A1 xs.length c1 → a'.eval (.tmp 22) = .int .i64 (xs.length : Int) → a'.eval (.tmp 23) = .int .i64 (0) → Q .normal a' (W)) : (Code.region id (Ru.ops 20 3) false).wp Try.prog Q a W := by
  refine wp_region_list ?_
  show wpList _ _ _ (_ :: _ :: _ :: []) _ _
  have k0 : Ev.Stay [21, 22, 23] a a := Ev.Stay.refl [21, 22, 23] a
  refine Ev.pv (N := 21) (v := .slice A1 xs.length c1) (W' := W) ?_ rfl rfl ?_
  · unfold execOp
    generalize a.eval = ev at *
    go_simp
  obtain ⟨a1, qa1⟩ : ∃ z_, z_ = a.put (some 21) (.slice A1 xs.length c1) := ⟨_, rfl⟩
  have k1 : Ev.Stay [21, 22, 23] a a1 := by rw [qa1]; exact k0.put (by decide) _
  have e1_0 := Ev.oth qa1 (by decide) h0
  have e1_21 := Ev.sam qa1 (by rw [k0.1, hsz]; decide)
  rw [← qa1]
  clear qa1 
  refine Ev.pv (N := 22) (v := .int .i64 (xs.length : Int)) (W' := W) ?_ rfl rfl ?_
  · unfold execOp
    generalize a1.eval = ev at *
    go_simp
  obtain ⟨a2, qa2⟩ : ∃ z_, z_ = a1.put (some 22) (.int .i64 (xs.length : Int)) := ⟨_, rfl⟩
  have k2 : Ev.Stay [21, 22, 23] a a2 := by rw [qa2]; exact k1.put (by decide) _
  have e2_0 := Ev.oth qa2 (by decide) e1_0
  have e2_21 := Ev.oth qa2 (by decide) e1_21
  have e2_22 := Ev.sam qa2 (by rw [k1.1, hsz]; decide)
  rw [← qa2]
  clear qa2 e1_0 e1_21
  refine Ev.pv (N := 23) (v := .int .i64 (0)) (W' := W) ?_ rfl rfl ?_
  · have ec0 : a2.eval (.const (.int .i64 (0))) = .int .i64 (0) := rfl
    unfold execOp
    generalize a2.eval = ev at *
    go_simp
  obtain ⟨a3, qa3⟩ : ∃ z_, z_ = a2.put (some 23) (.int .i64 (0)) := ⟨_, rfl⟩
  have k3 : Ev.Stay [21, 22, 23] a a3 := by rw [qa3]; exact k2.put (by decide) _
  have e3_0 := Ev.oth qa3 (by decide) e2_0
  have e3_21 := Ev.oth qa3 (by decide) e2_21
  have e3_22 := Ev.oth qa3 (by decide) e2_22
  have e3_23 := Ev.sam qa3 (by rw [k2.1, hsz]; decide)
  rw [← qa3]
  clear qa3 e2_0 e2_21 e2_22
  exact hQ _ k3 e3_21 e3_22 e3_23
set_option maxHeartbeats 2000000 in
theorem Rg.l4 {id : Nat} {Q : Exit → Act → World → Prop} {a : Act} {W : World} {k n : Nat}
    (hsz : a.tmps.size = 71)  (h23 : a.eval (.tmp 23) = .int .i64 (k : Int)) (h22 : a.eval (.tmp 22) = .int .i64 (n : Int))
    (hQ : ∀ a', Ev.Stay [24] a a' → a'.eval (.tmp 24) = .bool (decide (k < n)) → Q .normal a' (W)) : (Code.region id (Ru.ops 20 4) false).wp Try.prog Q a W := by
  refine wp_region_list ?_
  show wpList _ _ _ (_ :: []) _ _
  have k0 : Ev.Stay [24] a a := Ev.Stay.refl [24] a
  refine Ev.pv (N := 24) (v := .bool (decide (k < n))) (W' := W) ?_ rfl rfl ?_
  · unfold execOp
    generalize a.eval = ev at *
    (go_simp; try (rw [Bool.eq_iff_iff]; simp))
  obtain ⟨a1, qa1⟩ : ∃ z_, z_ = a.put (some 24) (.bool (decide (k < n))) := ⟨_, rfl⟩
  have k1 : Ev.Stay [24] a a1 := by rw [qa1]; exact k0.put (by decide) _
  have e1_23 := Ev.oth qa1 (by decide) h23
  have e1_22 := Ev.oth qa1 (by decide) h22
  have e1_24 := Ev.sam qa1 (by rw [k0.1, hsz]; decide)
  rw [← qa1]
  clear qa1 
  exact hQ _ k1 e1_24
set_option maxHeartbeats 2000000 in
theorem Rg.l8 {id : Nat} {Q : Exit → Act → World → Prop} {a : Act} {W : World} {k n : Nat}
    (hsz : a.tmps.size = 71)  (h32 : a.eval (.tmp 32) = .int .i64 (k : Int)) (h31 : a.eval (.tmp 31) = .int .i64 (n : Int))
    (hQ : ∀ a', Ev.Stay [33] a a' → a'.eval (.tmp 33) = .bool (decide (k < n)) → Q .normal a' (W)) : (Code.region id (Ru.ops 20 8) false).wp Try.prog Q a W := by
  refine wp_region_list ?_
  show wpList _ _ _ (_ :: []) _ _
  have k0 : Ev.Stay [33] a a := Ev.Stay.refl [33] a
  refine Ev.pv (N := 33) (v := .bool (decide (k < n))) (W' := W) ?_ rfl rfl ?_
  · unfold execOp
    generalize a.eval = ev at *
    (go_simp; try (rw [Bool.eq_iff_iff]; simp))
  obtain ⟨a1, qa1⟩ : ∃ z_, z_ = a.put (some 33) (.bool (decide (k < n))) := ⟨_, rfl⟩
  have k1 : Ev.Stay [33] a a1 := by rw [qa1]; exact k0.put (by decide) _
  have e1_32 := Ev.oth qa1 (by decide) h32
  have e1_31 := Ev.oth qa1 (by decide) h31
  have e1_33 := Ev.sam qa1 (by rw [k0.1, hsz]; decide)
  rw [← qa1]
  clear qa1 
  exact hQ _ k1 e1_33
set_option maxHeartbeats 2000000 in
theorem Rg.l5 {id : Nat} {Q : Exit → Act → World → Prop} {a : Act} {W : World} {ad : Addr} {k c1 : Nat} {xs : List Int} {x : Int}
    (hsz : a.tmps.size = 71)  (h21 : a.eval (.tmp 21) = .slice (some ad) xs.length c1) (h23 : a.eval (.tmp 23) = .int .i64 (k : Int)) (hk : k < xs.length) (hc : W.cell? (ad.add k) = some (.int .i64 x))
    (hQ : ∀ a', Ev.Stay [25, 26, 10] a a' → a'.eval (.tmp 10) = .int .i64 (x) → Q .normal a' (W)) : (Code.region id (Ru.ops 20 5) false).wp Try.prog Q a W := by
  refine wp_region_list ?_
  show wpList _ _ _ (_ :: _ :: _ :: []) _ _
  have k0 : Ev.Stay [25, 26, 10] a a := Ev.Stay.refl [25, 26, 10] a
  refine Ev.pv (N := 25) (v := .pointer (some (ad.add k))) (W' := W) ?_ rfl rfl ?_
  · have lk_ : (k : Int) < (xs.length : Int) := by omega
    have lk0_ : (0 : Int) ≤ (k : Int) := by omega
    unfold execOp
    generalize a.eval = ev at *
    go_simp
  obtain ⟨a1, qa1⟩ : ∃ z_, z_ = a.put (some 25) (.pointer (some (ad.add k))) := ⟨_, rfl⟩
  have k1 : Ev.Stay [25, 26, 10] a a1 := by rw [qa1]; exact k0.put (by decide) _
  have e1_21 := Ev.oth qa1 (by decide) h21
  have e1_23 := Ev.oth qa1 (by decide) h23
  have e1_25 := Ev.sam qa1 (by rw [k0.1, hsz]; decide)
  rw [← qa1]
  clear qa1 
  refine Ev.pv (N := 26) (v := .int .i64 (x)) (W' := W) ?_ rfl rfl ?_
  · have hc_ := hc
    unfold execOp
    generalize a1.eval = ev at *
    go_simp
  obtain ⟨a2, qa2⟩ : ∃ z_, z_ = a1.put (some 26) (.int .i64 (x)) := ⟨_, rfl⟩
  have k2 : Ev.Stay [25, 26, 10] a a2 := by rw [qa2]; exact k1.put (by decide) _
  have e2_21 := Ev.oth qa2 (by decide) e1_21
  have e2_23 := Ev.oth qa2 (by decide) e1_23
  have e2_25 := Ev.oth qa2 (by decide) e1_25
  have e2_26 := Ev.sam qa2 (by rw [k1.1, hsz]; decide)
  rw [← qa2]
  clear qa2 e1_21 e1_23 e1_25
  clear e2_25
  refine Ev.pv (N := 10) (v := .int .i64 (x)) (W' := W) ?_ rfl rfl ?_
  · unfold execOp
    generalize a2.eval = ev at *
    go_simp
  obtain ⟨a3, qa3⟩ : ∃ z_, z_ = a2.put (some 10) (.int .i64 (x)) := ⟨_, rfl⟩
  have k3 : Ev.Stay [25, 26, 10] a a3 := by rw [qa3]; exact k2.put (by decide) _
  have e3_21 := Ev.oth qa3 (by decide) e2_21
  have e3_23 := Ev.oth qa3 (by decide) e2_23
  have e3_26 := Ev.oth qa3 (by decide) e2_26
  have e3_10 := Ev.sam qa3 (by rw [k2.1, hsz]; decide)
  rw [← qa3]
  clear qa3 e2_21 e2_23 e2_26
  exact hQ _ k3 e3_10
set_option maxHeartbeats 2000000 in
theorem Rg.l6 {id : Nat} {Q : Exit → Act → World → Prop} {a : Act} {W : World} {g m cap : Nat}
    (hsz : a.tmps.size = 71)  (h7 : a.eval (.tmp 7) = .slice (some ⟨g, 0, none⟩) (m + 1) cap) (hm : m ≤ 1000)
    (hQ : ∀ a', Ev.Stay [27, 28, 29, 11] a a' → a'.eval (.tmp 11) = .slice (some ⟨W.heap.size, 0, none⟩) (m + 1) (m + 1) → Q .normal a' (W.alloc (.cells (tab3 (m + 1) (fun _ => 0)) 3))) : (Code.region id (Ru.ops 20 6) false).wp Try.prog Q a W := by
  refine wp_region_list ?_
  show wpList _ _ _ (_ :: _ :: _ :: _ :: []) _ _
  have k0 : Ev.Stay [27, 28, 29, 11] a a := Ev.Stay.refl [27, 28, 29, 11] a
  refine Ev.pv (N := 27) (v := .slice (some ⟨g, 0, none⟩) (m + 1) cap) (W' := W) ?_ rfl rfl ?_
  · unfold execOp
    generalize a.eval = ev at *
    go_simp
  obtain ⟨a1, qa1⟩ : ∃ z_, z_ = a.put (some 27) (.slice (some ⟨g, 0, none⟩) (m + 1) cap) := ⟨_, rfl⟩
  have k1 : Ev.Stay [27, 28, 29, 11] a a1 := by rw [qa1]; exact k0.put (by decide) _
  have e1_7 := Ev.oth qa1 (by decide) h7
  have e1_27 := Ev.sam qa1 (by rw [k0.1, hsz]; decide)
  rw [← qa1]
  clear qa1 
  refine Ev.pv (N := 28) (v := .int .i64 ((m + 1 : Nat) : Int)) (W' := W) ?_ rfl rfl ?_
  · unfold execOp
    generalize a1.eval = ev at *
    go_simp
  obtain ⟨a2, qa2⟩ : ∃ z_, z_ = a1.put (some 28) (.int .i64 ((m + 1 : Nat) : Int)) := ⟨_, rfl⟩
  have k2 : Ev.Stay [27, 28, 29, 11] a a2 := by rw [qa2]; exact k1.put (by decide) _
  have e2_7 := Ev.oth qa2 (by decide) e1_7
  have e2_27 := Ev.oth qa2 (by decide) e1_27
  have e2_28 := Ev.sam qa2 (by rw [k1.1, hsz]; decide)
  rw [← qa2]
  clear qa2 e1_7 e1_27
  clear e2_27
  refine Ev.pv (N := 29) (v := .slice (some ⟨W.heap.size, 0, none⟩) (m + 1) (m + 1)) (W' := W.alloc (.cells (tab3 (m + 1) (fun _ => 0)) 3)) ?_ rfl rfl ?_
  · have hm_ := run_row W (m + 1) (by omega)
    have hc_ : ((m + 1 : Nat) : Int) = (m : Int) + 1 := by omega
    rw [hc_] at hm_
    clear hc_
    unfold execOp
    generalize a2.eval = ev at *
    go_simp
  obtain ⟨a3, qa3⟩ : ∃ z_, z_ = a2.put (some 29) (.slice (some ⟨W.heap.size, 0, none⟩) (m + 1) (m + 1)) := ⟨_, rfl⟩
  have k3 : Ev.Stay [27, 28, 29, 11] a a3 := by rw [qa3]; exact k2.put (by decide) _
  have e3_7 := Ev.oth qa3 (by decide) e2_7
  have e3_28 := Ev.oth qa3 (by decide) e2_28
  have e3_29 := Ev.sam qa3 (by rw [k2.1, hsz]; decide)
  rw [← qa3]
  clear qa3 e2_7 e2_28
  clear e3_28
  refine Ev.pv (N := 11) (v := .slice (some ⟨W.heap.size, 0, none⟩) (m + 1) (m + 1)) (W' := W.alloc (.cells (tab3 (m + 1) (fun _ => 0)) 3)) ?_ rfl rfl ?_
  · unfold execOp
    generalize a3.eval = ev at *
    go_simp
  obtain ⟨a4, qa4⟩ : ∃ z_, z_ = a3.put (some 11) (.slice (some ⟨W.heap.size, 0, none⟩) (m + 1) (m + 1)) := ⟨_, rfl⟩
  have k4 : Ev.Stay [27, 28, 29, 11] a a4 := by rw [qa4]; exact k3.put (by decide) _
  have e4_7 := Ev.oth qa4 (by decide) e3_7
  have e4_29 := Ev.oth qa4 (by decide) e3_29
  have e4_11 := Ev.sam qa4 (by rw [k3.1, hsz]; decide)
  rw [← qa4]
  clear qa4 e3_7 e3_29
  exact hQ _ k4 e4_11
set_option maxHeartbeats 2000000 in
theorem Rg.l7 {id : Nat} {Q : Exit → Act → World → Prop} {a : Act} {W : World} {A2 : Option Addr} {c2 : Nat} {lb : List Int}
    (hsz : a.tmps.size = 71)  (h1 : a.eval (.tmp 1) = .slice A2 lb.length c2)
    (hQ : ∀ a', Ev.Stay [30, 31, 32] a a' → a'.eval (.tmp 30) = .slice A2 lb.length c2 → a'.eval (.tmp 31) = .int .i64 (lb.length : Int) → a'.eval (.tmp 32) = .int .i64 (0) → Q .normal a' (W)) : (Code.region id (Ru.ops 20 7) false).wp Try.prog Q a W := by
  refine wp_region_list ?_
  show wpList _ _ _ (_ :: _ :: _ :: []) _ _
  have k0 : Ev.Stay [30, 31, 32] a a := Ev.Stay.refl [30, 31, 32] a
  refine Ev.pv (N := 30) (v := .slice A2 lb.length c2) (W' := W) ?_ rfl rfl ?_
  · unfold execOp
    generalize a.eval = ev at *
    go_simp
  obtain ⟨a1, qa1⟩ : ∃ z_, z_ = a.put (some 30) (.slice A2 lb.length c2) := ⟨_, rfl⟩
  have k1 : Ev.Stay [30, 31, 32] a a1 := by rw [qa1]; exact k0.put (by decide) _
  have e1_1 := Ev.oth qa1 (by decide) h1
  have e1_30 := Ev.sam qa1 (by rw [k0.1, hsz]; decide)
  rw [← qa1]
  clear qa1 
  refine Ev.pv (N := 31) (v := .int .i64 (lb.length : Int)) (W' := W) ?_ rfl rfl ?_
  · unfold execOp
    generalize a1.eval = ev at *
    go_simp
  obtain ⟨a2, qa2⟩ : ∃ z_, z_ = a1.put (some 31) (.int .i64 (lb.length : Int)) := ⟨_, rfl⟩
  have k2 : Ev.Stay [30, 31, 32] a a2 := by rw [qa2]; exact k1.put (by decide) _
  have e2_1 := Ev.oth qa2 (by decide) e1_1
  have e2_30 := Ev.oth qa2 (by decide) e1_30
  have e2_31 := Ev.sam qa2 (by rw [k1.1, hsz]; decide)
  rw [← qa2]
  clear qa2 e1_1 e1_30
  refine Ev.pv (N := 32) (v := .int .i64 (0)) (W' := W) ?_ rfl rfl ?_
  · have ec0 : a2.eval (.const (.int .i64 (0))) = .int .i64 (0) := rfl
    unfold execOp
    generalize a2.eval = ev at *
    go_simp
  obtain ⟨a3, qa3⟩ : ∃ z_, z_ = a2.put (some 32) (.int .i64 (0)) := ⟨_, rfl⟩
  have k3 : Ev.Stay [30, 31, 32] a a3 := by rw [qa3]; exact k2.put (by decide) _
  have e3_1 := Ev.oth qa3 (by decide) e2_1
  have e3_30 := Ev.oth qa3 (by decide) e2_30
  have e3_31 := Ev.oth qa3 (by decide) e2_31
  have e3_32 := Ev.sam qa3 (by rw [k2.1, hsz]; decide)
  rw [← qa3]
  clear qa3 e2_1 e2_30 e2_31
  exact hQ _ k3 e3_30 e3_31 e3_32
set_option maxHeartbeats 2000000 in
theorem Rg.l9 {id : Nat} {Q : Exit → Act → World → Prop} {a : Act} {W : World} {ad : Addr} {j c2 : Nat} {lb : List Int} {y : Int}
    (hsz : a.tmps.size = 71)  (h30 : a.eval (.tmp 30) = .slice (some ad) lb.length c2) (h32 : a.eval (.tmp 32) = .int .i64 (j : Int)) (hj : j < lb.length) (hc : W.cell? (ad.add j) = some (.int .i64 y))
    (hQ : ∀ a', Ev.Stay [34, 35, 36, 12, 13] a a' → a'.eval (.tmp 12) = .int .i64 (j : Int) → a'.eval (.tmp 13) = .int .i64 (y) → Q .normal a' (W)) : (Code.region id (Ru.ops 20 9) false).wp Try.prog Q a W := by
  refine wp_region_list ?_
  show wpList _ _ _ (_ :: _ :: _ :: _ :: _ :: []) _ _
  have k0 : Ev.Stay [34, 35, 36, 12, 13] a a := Ev.Stay.refl [34, 35, 36, 12, 13] a
  refine Ev.pv (N := 34) (v := .int .i64 (j : Int)) (W' := W) ?_ rfl rfl ?_
  · unfold execOp
    generalize a.eval = ev at *
    go_simp
  obtain ⟨a1, qa1⟩ : ∃ z_, z_ = a.put (some 34) (.int .i64 (j : Int)) := ⟨_, rfl⟩
  have k1 : Ev.Stay [34, 35, 36, 12, 13] a a1 := by rw [qa1]; exact k0.put (by decide) _
  have e1_30 := Ev.oth qa1 (by decide) h30
  have e1_32 := Ev.oth qa1 (by decide) h32
  have e1_34 := Ev.sam qa1 (by rw [k0.1, hsz]; decide)
  rw [← qa1]
  clear qa1 
  refine Ev.pv (N := 35) (v := .pointer (some (ad.add j))) (W' := W) ?_ rfl rfl ?_
  · have lk_ : (j : Int) < (lb.length : Int) := by omega
    have lk0_ : (0 : Int) ≤ (j : Int) := by omega
    unfold execOp
    generalize a1.eval = ev at *
    go_simp
  obtain ⟨a2, qa2⟩ : ∃ z_, z_ = a1.put (some 35) (.pointer (some (ad.add j))) := ⟨_, rfl⟩
  have k2 : Ev.Stay [34, 35, 36, 12, 13] a a2 := by rw [qa2]; exact k1.put (by decide) _
  have e2_30 := Ev.oth qa2 (by decide) e1_30
  have e2_32 := Ev.oth qa2 (by decide) e1_32
  have e2_34 := Ev.oth qa2 (by decide) e1_34
  have e2_35 := Ev.sam qa2 (by rw [k1.1, hsz]; decide)
  rw [← qa2]
  clear qa2 e1_30 e1_32 e1_34
  refine Ev.pv (N := 36) (v := .int .i64 (y)) (W' := W) ?_ rfl rfl ?_
  · have hc_ := hc
    unfold execOp
    generalize a2.eval = ev at *
    go_simp
  obtain ⟨a3, qa3⟩ : ∃ z_, z_ = a2.put (some 36) (.int .i64 (y)) := ⟨_, rfl⟩
  have k3 : Ev.Stay [34, 35, 36, 12, 13] a a3 := by rw [qa3]; exact k2.put (by decide) _
  have e3_30 := Ev.oth qa3 (by decide) e2_30
  have e3_32 := Ev.oth qa3 (by decide) e2_32
  have e3_34 := Ev.oth qa3 (by decide) e2_34
  have e3_35 := Ev.oth qa3 (by decide) e2_35
  have e3_36 := Ev.sam qa3 (by rw [k2.1, hsz]; decide)
  rw [← qa3]
  clear qa3 e2_30 e2_32 e2_34 e2_35
  clear e3_35
  refine Ev.pv (N := 12) (v := .int .i64 (j : Int)) (W' := W) ?_ rfl rfl ?_
  · unfold execOp
    generalize a3.eval = ev at *
    go_simp
  obtain ⟨a4, qa4⟩ : ∃ z_, z_ = a3.put (some 12) (.int .i64 (j : Int)) := ⟨_, rfl⟩
  have k4 : Ev.Stay [34, 35, 36, 12, 13] a a4 := by rw [qa4]; exact k3.put (by decide) _
  have e4_30 := Ev.oth qa4 (by decide) e3_30
  have e4_32 := Ev.oth qa4 (by decide) e3_32
  have e4_34 := Ev.oth qa4 (by decide) e3_34
  have e4_36 := Ev.oth qa4 (by decide) e3_36
  have e4_12 := Ev.sam qa4 (by rw [k3.1, hsz]; decide)
  rw [← qa4]
  clear qa4 e3_30 e3_32 e3_34 e3_36
  refine Ev.pv (N := 13) (v := .int .i64 (y)) (W' := W) ?_ rfl rfl ?_
  · unfold execOp
    generalize a4.eval = ev at *
    go_simp
  obtain ⟨a5, qa5⟩ : ∃ z_, z_ = a4.put (some 13) (.int .i64 (y)) := ⟨_, rfl⟩
  have k5 : Ev.Stay [34, 35, 36, 12, 13] a a5 := by rw [qa5]; exact k4.put (by decide) _
  have e5_30 := Ev.oth qa5 (by decide) e4_30
  have e5_32 := Ev.oth qa5 (by decide) e4_32
  have e5_34 := Ev.oth qa5 (by decide) e4_34
  have e5_36 := Ev.oth qa5 (by decide) e4_36
  have e5_12 := Ev.oth qa5 (by decide) e4_12
  have e5_13 := Ev.sam qa5 (by rw [k4.1, hsz]; decide)
  rw [← qa5]
  clear qa5 e4_30 e4_32 e4_34 e4_36 e4_12
  exact hQ _ k5 e5_12 e5_13
set_option maxHeartbeats 2000000 in
theorem Rg.l10 {id : Nat} {Q : Exit → Act → World → Prop} {a : Act} {W : World} {x y : Int}
    (hsz : a.tmps.size = 71)  (h10 : a.eval (.tmp 10) = .int .i64 (x)) (h13 : a.eval (.tmp 13) = .int .i64 (y))
    (hQ : ∀ a', Ev.Stay [37, 38, 39] a a' → a'.eval (.tmp 39) = .bool (x == y) → Q .normal a' (W)) : (Code.region id (Ru.ops 20 10) false).wp Try.prog Q a W := by
  refine wp_region_list ?_
  show wpList _ _ _ (_ :: _ :: _ :: []) _ _
  have k0 : Ev.Stay [37, 38, 39] a a := Ev.Stay.refl [37, 38, 39] a
  refine Ev.pv (N := 37) (v := .int .i64 (x)) (W' := W) ?_ rfl rfl ?_
  · unfold execOp
    generalize a.eval = ev at *
    go_simp
  obtain ⟨a1, qa1⟩ : ∃ z_, z_ = a.put (some 37) (.int .i64 (x)) := ⟨_, rfl⟩
  have k1 : Ev.Stay [37, 38, 39] a a1 := by rw [qa1]; exact k0.put (by decide) _
  have e1_10 := Ev.oth qa1 (by decide) h10
  have e1_13 := Ev.oth qa1 (by decide) h13
  have e1_37 := Ev.sam qa1 (by rw [k0.1, hsz]; decide)
  rw [← qa1]
  clear qa1 
  refine Ev.pv (N := 38) (v := .int .i64 (y)) (W' := W) ?_ rfl rfl ?_
  · unfold execOp
    generalize a1.eval = ev at *
    go_simp
  obtain ⟨a2, qa2⟩ : ∃ z_, z_ = a1.put (some 38) (.int .i64 (y)) := ⟨_, rfl⟩
  have k2 : Ev.Stay [37, 38, 39] a a2 := by rw [qa2]; exact k1.put (by decide) _
  have e2_10 := Ev.oth qa2 (by decide) e1_10
  have e2_13 := Ev.oth qa2 (by decide) e1_13
  have e2_37 := Ev.oth qa2 (by decide) e1_37
  have e2_38 := Ev.sam qa2 (by rw [k1.1, hsz]; decide)
  rw [← qa2]
  clear qa2 e1_10 e1_13 e1_37
  refine Ev.pv (N := 39) (v := .bool (x == y)) (W' := W) ?_ rfl rfl ?_
  · unfold execOp
    generalize a2.eval = ev at *
    go_simp
  obtain ⟨a3, qa3⟩ : ∃ z_, z_ = a2.put (some 39) (.bool (x == y)) := ⟨_, rfl⟩
  have k3 : Ev.Stay [37, 38, 39] a a3 := by rw [qa3]; exact k2.put (by decide) _
  have e3_10 := Ev.oth qa3 (by decide) e2_10
  have e3_13 := Ev.oth qa3 (by decide) e2_13
  have e3_37 := Ev.oth qa3 (by decide) e2_37
  have e3_38 := Ev.oth qa3 (by decide) e2_38
  have e3_39 := Ev.sam qa3 (by rw [k2.1, hsz]; decide)
  rw [← qa3]
  clear qa3 e2_10 e2_13 e2_37 e2_38
  exact hQ _ k3 e3_39
set_option maxHeartbeats 2000000 in
theorem Rg.l11 {id : Nat} {Q : Exit → Act → World → Prop} {a : Act} {W : World} {g gn m cap j : Nat} {x : Int} {G : Nat → Int}
    (hsz : a.tmps.size = 71)  (h11 : a.eval (.tmp 11) = .slice (some ⟨gn, 0, none⟩) (m + 1) (m + 1)) (h7 : a.eval (.tmp 7) = .slice (some ⟨g, 0, none⟩) (m + 1) cap) (h12 : a.eval (.tmp 12) = .int .i64 (j : Int)) (hc : W.cell? ⟨g, j, none⟩ = some (.int .i64 x)) (hx : 0 ≤ x ∧ x ≤ 1000) (hn : W.heap[gn]? = some (.cells (tab3 (m + 1) G) 3 (0, 0))) (hj : j < m) (hm : m ≤ 1000)
    (hQ : ∀ a', Ev.Stay [40, 41, 42, 43, 44, 45, 46, 47, 48] a a' → Q .normal a' (W.setCell ⟨gn, j + 1, none⟩ (.int .i64 (x + 1)))) : (Code.region id (Ru.ops 20 11) false).wp Try.prog Q a W := by
  refine wp_region_list ?_
  show wpList _ _ _ (_ :: _ :: _ :: _ :: _ :: _ :: _ :: _ :: _ :: _ :: []) _ _
  have k0 : Ev.Stay [40, 41, 42, 43, 44, 45, 46, 47, 48] a a := Ev.Stay.refl [40, 41, 42, 43, 44, 45, 46, 47, 48] a
  refine Ev.pv (N := 40) (v := .slice (some ⟨gn, 0, none⟩) (m + 1) (m + 1)) (W' := W) ?_ rfl rfl ?_
  · unfold execOp
    generalize a.eval = ev at *
    go_simp
  obtain ⟨a1, qa1⟩ : ∃ z_, z_ = a.put (some 40) (.slice (some ⟨gn, 0, none⟩) (m + 1) (m + 1)) := ⟨_, rfl⟩
  have k1 : Ev.Stay [40, 41, 42, 43, 44, 45, 46, 47, 48] a a1 := by rw [qa1]; exact k0.put (by decide) _
  have e1_11 := Ev.oth qa1 (by decide) h11
  have e1_7 := Ev.oth qa1 (by decide) h7
  have e1_12 := Ev.oth qa1 (by decide) h12
  have e1_40 := Ev.sam qa1 (by rw [k0.1, hsz]; decide)
  rw [← qa1]
  clear qa1 
  refine Ev.pv (N := 41) (v := .int .i64 (j : Int)) (W' := W) ?_ rfl rfl ?_
  · unfold execOp
    generalize a1.eval = ev at *
    go_simp
  obtain ⟨a2, qa2⟩ : ∃ z_, z_ = a1.put (some 41) (.int .i64 (j : Int)) := ⟨_, rfl⟩
  have k2 : Ev.Stay [40, 41, 42, 43, 44, 45, 46, 47, 48] a a2 := by rw [qa2]; exact k1.put (by decide) _
  have e2_11 := Ev.oth qa2 (by decide) e1_11
  have e2_7 := Ev.oth qa2 (by decide) e1_7
  have e2_12 := Ev.oth qa2 (by decide) e1_12
  have e2_40 := Ev.oth qa2 (by decide) e1_40
  have e2_41 := Ev.sam qa2 (by rw [k1.1, hsz]; decide)
  rw [← qa2]
  clear qa2 e1_11 e1_7 e1_12 e1_40
  refine Ev.pv (N := 42) (v := .int .i64 ((j + 1 : Nat) : Int)) (W' := W) ?_ rfl rfl ?_
  · have ec0 : a2.eval (.const (.int .i64 (1))) = .int .i64 (1) := rfl
    unfold execOp
    generalize a2.eval = ev at *
    (go_simp; exact wr (by omega) (by omega))
  obtain ⟨a3, qa3⟩ : ∃ z_, z_ = a2.put (some 42) (.int .i64 ((j + 1 : Nat) : Int)) := ⟨_, rfl⟩
  have k3 : Ev.Stay [40, 41, 42, 43, 44, 45, 46, 47, 48] a a3 := by rw [qa3]; exact k2.put (by decide) _
  have e3_11 := Ev.oth qa3 (by decide) e2_11
  have e3_7 := Ev.oth qa3 (by decide) e2_7
  have e3_12 := Ev.oth qa3 (by decide) e2_12
  have e3_40 := Ev.oth qa3 (by decide) e2_40
  have e3_41 := Ev.oth qa3 (by decide) e2_41
  have e3_42 := Ev.sam qa3 (by rw [k2.1, hsz]; decide)
  rw [← qa3]
  clear qa3 e2_11 e2_7 e2_12 e2_40 e2_41
  clear e3_41
  refine Ev.pv (N := 43) (v := .slice (some ⟨g, 0, none⟩) (m + 1) cap) (W' := W) ?_ rfl rfl ?_
  · unfold execOp
    generalize a3.eval = ev at *
    go_simp
  obtain ⟨a4, qa4⟩ : ∃ z_, z_ = a3.put (some 43) (.slice (some ⟨g, 0, none⟩) (m + 1) cap) := ⟨_, rfl⟩
  have k4 : Ev.Stay [40, 41, 42, 43, 44, 45, 46, 47, 48] a a4 := by rw [qa4]; exact k3.put (by decide) _
  have e4_11 := Ev.oth qa4 (by decide) e3_11
  have e4_7 := Ev.oth qa4 (by decide) e3_7
  have e4_12 := Ev.oth qa4 (by decide) e3_12
  have e4_40 := Ev.oth qa4 (by decide) e3_40
  have e4_42 := Ev.oth qa4 (by decide) e3_42
  have e4_43 := Ev.sam qa4 (by rw [k3.1, hsz]; decide)
  rw [← qa4]
  clear qa4 e3_11 e3_7 e3_12 e3_40 e3_42
  refine Ev.pv (N := 44) (v := .int .i64 (j : Int)) (W' := W) ?_ rfl rfl ?_
  · unfold execOp
    generalize a4.eval = ev at *
    go_simp
  obtain ⟨a5, qa5⟩ : ∃ z_, z_ = a4.put (some 44) (.int .i64 (j : Int)) := ⟨_, rfl⟩
  have k5 : Ev.Stay [40, 41, 42, 43, 44, 45, 46, 47, 48] a a5 := by rw [qa5]; exact k4.put (by decide) _
  have e5_11 := Ev.oth qa5 (by decide) e4_11
  have e5_7 := Ev.oth qa5 (by decide) e4_7
  have e5_12 := Ev.oth qa5 (by decide) e4_12
  have e5_40 := Ev.oth qa5 (by decide) e4_40
  have e5_42 := Ev.oth qa5 (by decide) e4_42
  have e5_43 := Ev.oth qa5 (by decide) e4_43
  have e5_44 := Ev.sam qa5 (by rw [k4.1, hsz]; decide)
  rw [← qa5]
  clear qa5 e4_11 e4_7 e4_12 e4_40 e4_42 e4_43
  refine Ev.pv (N := 45) (v := .pointer (some ⟨g, j, none⟩)) (W' := W) ?_ rfl rfl ?_
  · have lk_ : (j : Int) + 1 < (m : Int) + 1 := by omega
    have lk0_ : (0 : Int) ≤ (j : Int) + 1 := by omega
    have lk2_ : (j : Int) < (m : Int) + 1 := by omega
    have lk3_ : (0 : Int) ≤ (j : Int) := by omega
    unfold execOp
    generalize a5.eval = ev at *
    go_simp
  obtain ⟨a6, qa6⟩ : ∃ z_, z_ = a5.put (some 45) (.pointer (some ⟨g, j, none⟩)) := ⟨_, rfl⟩
  have k6 : Ev.Stay [40, 41, 42, 43, 44, 45, 46, 47, 48] a a6 := by rw [qa6]; exact k5.put (by decide) _
  have e6_11 := Ev.oth qa6 (by decide) e5_11
  have e6_7 := Ev.oth qa6 (by decide) e5_7
  have e6_12 := Ev.oth qa6 (by decide) e5_12
  have e6_40 := Ev.oth qa6 (by decide) e5_40
  have e6_42 := Ev.oth qa6 (by decide) e5_42
  have e6_43 := Ev.oth qa6 (by decide) e5_43
  have e6_44 := Ev.oth qa6 (by decide) e5_44
  have e6_45 := Ev.sam qa6 (by rw [k5.1, hsz]; decide)
  rw [← qa6]
  clear qa6 e5_11 e5_7 e5_12 e5_40 e5_42 e5_43 e5_44
  clear e6_43
  clear e6_44
  refine Ev.pv (N := 46) (v := .int .i64 (x)) (W' := W) ?_ rfl rfl ?_
  · have hc_ := hc
    unfold execOp
    generalize a6.eval = ev at *
    go_simp
  obtain ⟨a7, qa7⟩ : ∃ z_, z_ = a6.put (some 46) (.int .i64 (x)) := ⟨_, rfl⟩
  have k7 : Ev.Stay [40, 41, 42, 43, 44, 45, 46, 47, 48] a a7 := by rw [qa7]; exact k6.put (by decide) _
  have e7_11 := Ev.oth qa7 (by decide) e6_11
  have e7_7 := Ev.oth qa7 (by decide) e6_7
  have e7_12 := Ev.oth qa7 (by decide) e6_12
  have e7_40 := Ev.oth qa7 (by decide) e6_40
  have e7_42 := Ev.oth qa7 (by decide) e6_42
  have e7_45 := Ev.oth qa7 (by decide) e6_45
  have e7_46 := Ev.sam qa7 (by rw [k6.1, hsz]; decide)
  rw [← qa7]
  clear qa7 e6_11 e6_7 e6_12 e6_40 e6_42 e6_45
  clear e7_45
  refine Ev.pv (N := 47) (v := .int .i64 (x + 1)) (W' := W) ?_ rfl rfl ?_
  · have ec0 : a7.eval (.const (.int .i64 (1))) = .int .i64 (1) := rfl
    have g1 := hx.1
    have g2 := hx.2
    unfold execOp
    generalize a7.eval = ev at *
    (go_simp; exact wr (by omega) (by omega))
  obtain ⟨a8, qa8⟩ : ∃ z_, z_ = a7.put (some 47) (.int .i64 (x + 1)) := ⟨_, rfl⟩
  have k8 : Ev.Stay [40, 41, 42, 43, 44, 45, 46, 47, 48] a a8 := by rw [qa8]; exact k7.put (by decide) _
  have e8_11 := Ev.oth qa8 (by decide) e7_11
  have e8_7 := Ev.oth qa8 (by decide) e7_7
  have e8_12 := Ev.oth qa8 (by decide) e7_12
  have e8_40 := Ev.oth qa8 (by decide) e7_40
  have e8_42 := Ev.oth qa8 (by decide) e7_42
  have e8_46 := Ev.oth qa8 (by decide) e7_46
  have e8_47 := Ev.sam qa8 (by rw [k7.1, hsz]; decide)
  rw [← qa8]
  clear qa8 e7_11 e7_7 e7_12 e7_40 e7_42 e7_46
  clear e8_46
  refine Ev.pv (N := 48) (v := .pointer (some ⟨gn, j + 1, none⟩)) (W' := W) ?_ rfl rfl ?_
  · have lk_ : (j : Int) + 1 < (m : Int) + 1 := by omega
    have lk0_ : (0 : Int) ≤ (j : Int) + 1 := by omega
    have lk2_ : (j : Int) < (m : Int) + 1 := by omega
    have lk3_ : (0 : Int) ≤ (j : Int) := by omega
    unfold execOp
    generalize a8.eval = ev at *
    go_simp
  obtain ⟨a9, qa9⟩ : ∃ z_, z_ = a8.put (some 48) (.pointer (some ⟨gn, j + 1, none⟩)) := ⟨_, rfl⟩
  have k9 : Ev.Stay [40, 41, 42, 43, 44, 45, 46, 47, 48] a a9 := by rw [qa9]; exact k8.put (by decide) _
  have e9_11 := Ev.oth qa9 (by decide) e8_11
  have e9_7 := Ev.oth qa9 (by decide) e8_7
  have e9_12 := Ev.oth qa9 (by decide) e8_12
  have e9_40 := Ev.oth qa9 (by decide) e8_40
  have e9_42 := Ev.oth qa9 (by decide) e8_42
  have e9_47 := Ev.oth qa9 (by decide) e8_47
  have e9_48 := Ev.sam qa9 (by rw [k8.1, hsz]; decide)
  rw [← qa9]
  clear qa9 e8_11 e8_7 e8_12 e8_40 e8_42 e8_47
  clear e9_40
  clear e9_42
  have hcell := tab3_cell (i := j + 1) hn (by omega)
  have hfz := blk_frozen hn (j + 1)
  refine Ev.pk (W' := W.setCell ⟨gn, j + 1, none⟩ (.int .i64 (x + 1))) ?_ rfl rfl ?_
  · unfold execOp
    generalize a9.eval = ev at *
    go_simp
  exact hQ _ k9 
set_option maxHeartbeats 2000000 in
theorem Rg.l12 {id : Nat} {Q : Exit → Act → World → Prop} {a : Act} {W : World} {g gn m cap j : Nat} {y : Int} {G : Nat → Int}
    (hsz : a.tmps.size = 71) (hP : ∀ c a a' w, a'.defers = a.defers → Q (.panic c) a w → Q (.panic c) a' w)  (h11 : a.eval (.tmp 11) = .slice (some ⟨gn, 0, none⟩) (m + 1) (m + 1)) (h7 : a.eval (.tmp 7) = .slice (some ⟨g, 0, none⟩) (m + 1) cap) (h12 : a.eval (.tmp 12) = .int .i64 (j : Int)) (hc : W.drew.cell? ⟨g, j + 1, none⟩ = some (.int .i64 y)) (hn : W.drew.heap[gn]? = some (.cells (tab3 (m + 1) G) 3 (0, 0))) (hj : j < m) (hm : m ≤ 1000)
    (hQ : ∀ a', Ev.Stay [49, 50, 51, 52, 53, 54, 55, 56, 57, 58, 59, 60, 61, 62] a a' → Q .normal a' (W.drew.setCell ⟨gn, j + 1, none⟩ (.int .i64 (if y < G j then G j else y)))) : (Code.region id (Ru.ops 20 12) true).wp Try.prog Q a W := by
  have hops : Ru.ops 20 12 = List.toArray [_, _, _, _, _, _, _, _, _, _, _, _, _, _, _] := rfl
  refine start_ (S := fun w_ => w_.cell? ⟨g, j + 1, none⟩ = some (.int .i64 y) ∧ w_.heap[gn]? = some (.cells (tab3 (m + 1) G) 3 (0, 0))) (ds := [14]) #[false, false, false, false, false, false, false, false, false, false, false, false, false, false, false] (by kernel_rfl) (n := 15) rfl rfl ?S0 (fun hHeld => ?_)
  case S0 => exact ⟨hc, hn⟩
  have k0 : Ev.Stay [49, 50, 51, 52, 53, 54, 55, 56, 57, 58, 59, 60, 61, 62] a a := Ev.Stay.refl [49, 50, 51, 52, 53, 54, 55, 56, 57, 58, 59, 60, 61, 62] a
  refine pure_ (i := 0) (N := some 49) (v := .slice (some ⟨gn, 0, none⟩) (m + 1) (m + 1)) #[true, false, false, false, false, false, false, false, false, false, false, false, false, false, false] (Rg.of hops Rg.at0) rfl (by kernel_rfl) (fun c _ _ h => hP c _ _ _ (by rfl) h) (Or.inl ⟨Ev.wanted rfl, fun w_ => ?_⟩) rfl ?_
  · unfold execOp
    generalize a.eval = ev at *
    go_simp
  obtain ⟨a1, qa1⟩ : ∃ z_, z_ = a.put (some 49) (.slice (some ⟨gn, 0, none⟩) (m + 1) (m + 1)) := ⟨_, rfl⟩
  have k1 : Ev.Stay [49, 50, 51, 52, 53, 54, 55, 56, 57, 58, 59, 60, 61, 62] a a1 := by rw [qa1]; exact k0.put (by decide) _
  have e1_11 := Ev.oth qa1 (by decide) h11
  have e1_7 := Ev.oth qa1 (by decide) h7
  have e1_12 := Ev.oth qa1 (by decide) h12
  have e1_49 := Ev.sam qa1 (by rw [k0.1, hsz]; decide)
  rw [← qa1]
  clear qa1 
  refine pure_ (i := 1) (N := some 50) (v := .int .i64 (j : Int)) #[true, true, false, false, false, false, false, false, false, false, false, false, false, false, false] (Rg.of hops (Rg.atS Rg.at0)) rfl (by kernel_rfl) (fun c _ _ h => hP c _ _ _ (by rfl) h) (Or.inl ⟨Ev.wanted rfl, fun w_ => ?_⟩) rfl ?_
  · unfold execOp
    generalize a1.eval = ev at *
    go_simp
  obtain ⟨a2, qa2⟩ : ∃ z_, z_ = a1.put (some 50) (.int .i64 (j : Int)) := ⟨_, rfl⟩
  have k2 : Ev.Stay [49, 50, 51, 52, 53, 54, 55, 56, 57, 58, 59, 60, 61, 62] a a2 := by rw [qa2]; exact k1.put (by decide) _
  have e2_11 := Ev.oth qa2 (by decide) e1_11
  have e2_7 := Ev.oth qa2 (by decide) e1_7
  have e2_12 := Ev.oth qa2 (by decide) e1_12
  have e2_49 := Ev.oth qa2 (by decide) e1_49
  have e2_50 := Ev.sam qa2 (by rw [k1.1, hsz]; decide)
  rw [← qa2]
  clear qa2 e1_11 e1_7 e1_12 e1_49
  refine pure_ (i := 2) (N := some 51) (v := .int .i64 ((j + 1 : Nat) : Int)) #[true, true, true, false, false, false, false, false, false, false, false, false, false, false, false] (Rg.of hops (Rg.atS (Rg.atS Rg.at0))) rfl (by kernel_rfl) (fun c _ _ h => hP c _ _ _ (by rfl) h) (Or.inl ⟨Ev.wanted rfl, fun w_ => ?_⟩) rfl ?_
  · have ec0 : a2.eval (.const (.int .i64 (1))) = .int .i64 (1) := rfl
    unfold execOp
    generalize a2.eval = ev at *
    (go_simp; exact wr (by omega) (by omega))
  obtain ⟨a3, qa3⟩ : ∃ z_, z_ = a2.put (some 51) (.int .i64 ((j + 1 : Nat) : Int)) := ⟨_, rfl⟩
  have k3 : Ev.Stay [49, 50, 51, 52, 53, 54, 55, 56, 57, 58, 59, 60, 61, 62] a a3 := by rw [qa3]; exact k2.put (by decide) _
  have e3_11 := Ev.oth qa3 (by decide) e2_11
  have e3_7 := Ev.oth qa3 (by decide) e2_7
  have e3_12 := Ev.oth qa3 (by decide) e2_12
  have e3_49 := Ev.oth qa3 (by decide) e2_49
  have e3_50 := Ev.oth qa3 (by decide) e2_50
  have e3_51 := Ev.sam qa3 (by rw [k2.1, hsz]; decide)
  rw [← qa3]
  clear qa3 e2_11 e2_7 e2_12 e2_49 e2_50
  clear e3_50
  refine pure_ (i := 3) (N := some 52) (v := .slice (some ⟨g, 0, none⟩) (m + 1) cap) #[true, true, true, true, false, false, false, false, false, false, false, false, false, false, false] (Rg.of hops (Rg.atS (Rg.atS (Rg.atS Rg.at0)))) rfl (by kernel_rfl) (fun c _ _ h => hP c _ _ _ (by rfl) h) (Or.inl ⟨Ev.wanted rfl, fun w_ => ?_⟩) rfl ?_
  · unfold execOp
    generalize a3.eval = ev at *
    go_simp
  obtain ⟨a4, qa4⟩ : ∃ z_, z_ = a3.put (some 52) (.slice (some ⟨g, 0, none⟩) (m + 1) cap) := ⟨_, rfl⟩
  have k4 : Ev.Stay [49, 50, 51, 52, 53, 54, 55, 56, 57, 58, 59, 60, 61, 62] a a4 := by rw [qa4]; exact k3.put (by decide) _
  have e4_11 := Ev.oth qa4 (by decide) e3_11
  have e4_7 := Ev.oth qa4 (by decide) e3_7
  have e4_12 := Ev.oth qa4 (by decide) e3_12
  have e4_49 := Ev.oth qa4 (by decide) e3_49
  have e4_51 := Ev.oth qa4 (by decide) e3_51
  have e4_52 := Ev.sam qa4 (by rw [k3.1, hsz]; decide)
  rw [← qa4]
  clear qa4 e3_11 e3_7 e3_12 e3_49 e3_51
  refine pure_ (i := 4) (N := some 53) (v := .int .i64 (j : Int)) #[true, true, true, true, true, false, false, false, false, false, false, false, false, false, false] (Rg.of hops (Rg.atS (Rg.atS (Rg.atS (Rg.atS Rg.at0))))) rfl (by kernel_rfl) (fun c _ _ h => hP c _ _ _ (by rfl) h) (Or.inl ⟨Ev.wanted rfl, fun w_ => ?_⟩) rfl ?_
  · unfold execOp
    generalize a4.eval = ev at *
    go_simp
  obtain ⟨a5, qa5⟩ : ∃ z_, z_ = a4.put (some 53) (.int .i64 (j : Int)) := ⟨_, rfl⟩
  have k5 : Ev.Stay [49, 50, 51, 52, 53, 54, 55, 56, 57, 58, 59, 60, 61, 62] a a5 := by rw [qa5]; exact k4.put (by decide) _
  have e5_11 := Ev.oth qa5 (by decide) e4_11
  have e5_7 := Ev.oth qa5 (by decide) e4_7
  have e5_12 := Ev.oth qa5 (by decide) e4_12
  have e5_49 := Ev.oth qa5 (by decide) e4_49
  have e5_51 := Ev.oth qa5 (by decide) e4_51
  have e5_52 := Ev.oth qa5 (by decide) e4_52
  have e5_53 := Ev.sam qa5 (by rw [k4.1, hsz]; decide)
  rw [← qa5]
  clear qa5 e4_11 e4_7 e4_12 e4_49 e4_51 e4_52
  refine pure_ (i := 5) (N := some 54) (v := .int .i64 ((j + 1 : Nat) : Int)) #[true, true, true, true, true, true, false, false, false, false, false, false, false, false, false] (Rg.of hops (Rg.atS (Rg.atS (Rg.atS (Rg.atS (Rg.atS Rg.at0)))))) rfl (by kernel_rfl) (fun c _ _ h => hP c _ _ _ (by rfl) h) (Or.inl ⟨Ev.wanted rfl, fun w_ => ?_⟩) rfl ?_
  · have ec0 : a5.eval (.const (.int .i64 (1))) = .int .i64 (1) := rfl
    unfold execOp
    generalize a5.eval = ev at *
    (go_simp; exact wr (by omega) (by omega))
  obtain ⟨a6, qa6⟩ : ∃ z_, z_ = a5.put (some 54) (.int .i64 ((j + 1 : Nat) : Int)) := ⟨_, rfl⟩
  have k6 : Ev.Stay [49, 50, 51, 52, 53, 54, 55, 56, 57, 58, 59, 60, 61, 62] a a6 := by rw [qa6]; exact k5.put (by decide) _
  have e6_11 := Ev.oth qa6 (by decide) e5_11
  have e6_7 := Ev.oth qa6 (by decide) e5_7
  have e6_12 := Ev.oth qa6 (by decide) e5_12
  have e6_49 := Ev.oth qa6 (by decide) e5_49
  have e6_51 := Ev.oth qa6 (by decide) e5_51
  have e6_52 := Ev.oth qa6 (by decide) e5_52
  have e6_53 := Ev.oth qa6 (by decide) e5_53
  have e6_54 := Ev.sam qa6 (by rw [k5.1, hsz]; decide)
  rw [← qa6]
  clear qa6 e5_11 e5_7 e5_12 e5_49 e5_51 e5_52 e5_53
  clear e6_53
  refine pure_ (i := 6) (N := some 55) (v := .pointer (some ⟨g, j + 1, none⟩)) #[true, true, true, true, true, true, true, false, false, false, false, false, false, false, false] (Rg.of hops (Rg.atS (Rg.atS (Rg.atS (Rg.atS (Rg.atS (Rg.atS Rg.at0))))))) rfl (by kernel_rfl) (fun c _ _ h => hP c _ _ _ (by rfl) h) (Or.inl ⟨Ev.wanted rfl, fun w_ => ?_⟩) rfl ?_
  · have lk_ : (j : Int) + 1 < (m : Int) + 1 := by omega
    have lk0_ : (0 : Int) ≤ (j : Int) + 1 := by omega
    have lk2_ : (j : Int) < (m : Int) + 1 := by omega
    have lk3_ : (0 : Int) ≤ (j : Int) := by omega
    unfold execOp
    generalize a6.eval = ev at *
    go_simp
  obtain ⟨a7, qa7⟩ : ∃ z_, z_ = a6.put (some 55) (.pointer (some ⟨g, j + 1, none⟩)) := ⟨_, rfl⟩
  have k7 : Ev.Stay [49, 50, 51, 52, 53, 54, 55, 56, 57, 58, 59, 60, 61, 62] a a7 := by rw [qa7]; exact k6.put (by decide) _
  have e7_11 := Ev.oth qa7 (by decide) e6_11
  have e7_7 := Ev.oth qa7 (by decide) e6_7
  have e7_12 := Ev.oth qa7 (by decide) e6_12
  have e7_49 := Ev.oth qa7 (by decide) e6_49
  have e7_51 := Ev.oth qa7 (by decide) e6_51
  have e7_52 := Ev.oth qa7 (by decide) e6_52
  have e7_54 := Ev.oth qa7 (by decide) e6_54
  have e7_55 := Ev.sam qa7 (by rw [k6.1, hsz]; decide)
  rw [← qa7]
  clear qa7 e6_11 e6_7 e6_12 e6_49 e6_51 e6_52 e6_54
  clear e7_52
  clear e7_54
  refine take_ (i := 7) (N := some 56) (v := .int .i64 (y)) #[true, true, true, true, true, true, true, true, false, false, false, false, false, false, false] (Rg.of hops (Rg.atS (Rg.atS (Rg.atS (Rg.atS (Rg.atS (Rg.atS (Rg.atS Rg.at0)))))))) rfl (by kernel_rfl) (fun c _ _ h => hP c _ _ _ (by rfl) h) (Ev.loadW (Ev.wanted rfl) rfl e7_55 (fun w hw => Ev.load3 hw.1)) hHeld rfl ?_
  obtain ⟨a8, qa8⟩ : ∃ z_, z_ = a7.put (some 56) (.int .i64 (y)) := ⟨_, rfl⟩
  have k8 : Ev.Stay [49, 50, 51, 52, 53, 54, 55, 56, 57, 58, 59, 60, 61, 62] a a8 := by rw [qa8]; exact k7.put (by decide) _
  have e8_11 := Ev.oth qa8 (by decide) e7_11
  have e8_7 := Ev.oth qa8 (by decide) e7_7
  have e8_12 := Ev.oth qa8 (by decide) e7_12
  have e8_49 := Ev.oth qa8 (by decide) e7_49
  have e8_51 := Ev.oth qa8 (by decide) e7_51
  have e8_55 := Ev.oth qa8 (by decide) e7_55
  have e8_56 := Ev.sam qa8 (by rw [k7.1, hsz]; decide)
  rw [← qa8]
  clear qa8 e7_11 e7_7 e7_12 e7_49 e7_51 e7_55
  clear e8_55
  refine pure_ (i := 8) (N := some 57) (v := .slice (some ⟨gn, 0, none⟩) (m + 1) (m + 1)) #[true, true, true, true, true, true, true, true, true, false, false, false, false, false, false] (Rg.of hops (Rg.atS (Rg.atS (Rg.atS (Rg.atS (Rg.atS (Rg.atS (Rg.atS (Rg.atS Rg.at0))))))))) rfl (by kernel_rfl) (fun c _ _ h => hP c _ _ _ (by rfl) h) (Or.inl ⟨Ev.wanted rfl, fun w_ => ?_⟩) rfl ?_
  · unfold execOp
    generalize a8.eval = ev at *
    go_simp
  obtain ⟨a9, qa9⟩ : ∃ z_, z_ = a8.put (some 57) (.slice (some ⟨gn, 0, none⟩) (m + 1) (m + 1)) := ⟨_, rfl⟩
  have k9 : Ev.Stay [49, 50, 51, 52, 53, 54, 55, 56, 57, 58, 59, 60, 61, 62] a a9 := by rw [qa9]; exact k8.put (by decide) _
  have e9_11 := Ev.oth qa9 (by decide) e8_11
  have e9_7 := Ev.oth qa9 (by decide) e8_7
  have e9_12 := Ev.oth qa9 (by decide) e8_12
  have e9_49 := Ev.oth qa9 (by decide) e8_49
  have e9_51 := Ev.oth qa9 (by decide) e8_51
  have e9_56 := Ev.oth qa9 (by decide) e8_56
  have e9_57 := Ev.sam qa9 (by rw [k8.1, hsz]; decide)
  rw [← qa9]
  clear qa9 e8_11 e8_7 e8_12 e8_49 e8_51 e8_56
  refine pure_ (i := 9) (N := some 58) (v := .int .i64 (j : Int)) #[true, true, true, true, true, true, true, true, true, true, false, false, false, false, false] (Rg.of hops (Rg.atS (Rg.atS (Rg.atS (Rg.atS (Rg.atS (Rg.atS (Rg.atS (Rg.atS (Rg.atS Rg.at0)))))))))) rfl (by kernel_rfl) (fun c _ _ h => hP c _ _ _ (by rfl) h) (Or.inl ⟨Ev.wanted rfl, fun w_ => ?_⟩) rfl ?_
  · unfold execOp
    generalize a9.eval = ev at *
    go_simp
  obtain ⟨a10, qa10⟩ : ∃ z_, z_ = a9.put (some 58) (.int .i64 (j : Int)) := ⟨_, rfl⟩
  have k10 : Ev.Stay [49, 50, 51, 52, 53, 54, 55, 56, 57, 58, 59, 60, 61, 62] a a10 := by rw [qa10]; exact k9.put (by decide) _
  have e10_11 := Ev.oth qa10 (by decide) e9_11
  have e10_7 := Ev.oth qa10 (by decide) e9_7
  have e10_12 := Ev.oth qa10 (by decide) e9_12
  have e10_49 := Ev.oth qa10 (by decide) e9_49
  have e10_51 := Ev.oth qa10 (by decide) e9_51
  have e10_56 := Ev.oth qa10 (by decide) e9_56
  have e10_57 := Ev.oth qa10 (by decide) e9_57
  have e10_58 := Ev.sam qa10 (by rw [k9.1, hsz]; decide)
  rw [← qa10]
  clear qa10 e9_11 e9_7 e9_12 e9_49 e9_51 e9_56 e9_57
  refine pure_ (i := 10) (N := some 59) (v := .pointer (some ⟨gn, j, none⟩)) #[true, true, true, true, true, true, true, true, true, true, true, false, false, false, false] (Rg.of hops (Rg.atS (Rg.atS (Rg.atS (Rg.atS (Rg.atS (Rg.atS (Rg.atS (Rg.atS (Rg.atS (Rg.atS Rg.at0))))))))))) rfl (by kernel_rfl) (fun c _ _ h => hP c _ _ _ (by rfl) h) (Or.inl ⟨Ev.wanted rfl, fun w_ => ?_⟩) rfl ?_
  · have lk_ : (j : Int) + 1 < (m : Int) + 1 := by omega
    have lk0_ : (0 : Int) ≤ (j : Int) + 1 := by omega
    have lk2_ : (j : Int) < (m : Int) + 1 := by omega
    have lk3_ : (0 : Int) ≤ (j : Int) := by omega
    unfold execOp
    generalize a10.eval = ev at *
    go_simp
  obtain ⟨a11, qa11⟩ : ∃ z_, z_ = a10.put (some 59) (.pointer (some ⟨gn, j, none⟩)) := ⟨_, rfl⟩
  have k11 : Ev.Stay [49, 50, 51, 52, 53, 54, 55, 56, 57, 58, 59, 60, 61, 62] a a11 := by rw [qa11]; exact k10.put (by decide) _
  have e11_11 := Ev.oth qa11 (by decide) e10_11
  have e11_7 := Ev.oth qa11 (by decide) e10_7
  have e11_12 := Ev.oth qa11 (by decide) e10_12
  have e11_49 := Ev.oth qa11 (by decide) e10_49
  have e11_51 := Ev.oth qa11 (by decide) e10_51
  have e11_56 := Ev.oth qa11 (by decide) e10_56
  have e11_57 := Ev.oth qa11 (by decide) e10_57
  have e11_58 := Ev.oth qa11 (by decide) e10_58
  have e11_59 := Ev.sam qa11 (by rw [k10.1, hsz]; decide)
  rw [← qa11]
  clear qa11 e10_11 e10_7 e10_12 e10_49 e10_51 e10_56 e10_57 e10_58
  clear e11_57
  clear e11_58
  refine take_ (i := 11) (N := some 60) (v := .int .i64 (G j)) #[true, true, true, true, true, true, true, true, true, true, true, true, false, false, false] (Rg.of hops (Rg.atS (Rg.atS (Rg.atS (Rg.atS (Rg.atS (Rg.atS (Rg.atS (Rg.atS (Rg.atS (Rg.atS (Rg.atS Rg.at0)))))))))))) rfl (by kernel_rfl) (fun c _ _ h => hP c _ _ _ (by rfl) h) (Ev.loadW (Ev.wanted rfl) rfl e11_59 (fun w hw => Ev.load3 (tab3_cell hw.2 (by omega)))) hHeld rfl ?_
  obtain ⟨a12, qa12⟩ : ∃ z_, z_ = a11.put (some 60) (.int .i64 (G j)) := ⟨_, rfl⟩
  have k12 : Ev.Stay [49, 50, 51, 52, 53, 54, 55, 56, 57, 58, 59, 60, 61, 62] a a12 := by rw [qa12]; exact k11.put (by decide) _
  have e12_11 := Ev.oth qa12 (by decide) e11_11
  have e12_7 := Ev.oth qa12 (by decide) e11_7
  have e12_12 := Ev.oth qa12 (by decide) e11_12
  have e12_49 := Ev.oth qa12 (by decide) e11_49
  have e12_51 := Ev.oth qa12 (by decide) e11_51
  have e12_56 := Ev.oth qa12 (by decide) e11_56
  have e12_59 := Ev.oth qa12 (by decide) e11_59
  have e12_60 := Ev.sam qa12 (by rw [k11.1, hsz]; decide)
  rw [← qa12]
  clear qa12 e11_11 e11_7 e11_12 e11_49 e11_51 e11_56 e11_59
  clear e12_59
  refine pure_ (i := 12) (N := some 61) (v := .int .i64 (if y < G j then G j else y)) #[true, true, true, true, true, true, true, true, true, true, true, true, true, false, false] (Rg.of hops (Rg.atS (Rg.atS (Rg.atS (Rg.atS (Rg.atS (Rg.atS (Rg.atS (Rg.atS (Rg.atS (Rg.atS (Rg.atS (Rg.atS Rg.at0))))))))))))) rfl (by kernel_rfl) (fun c _ _ h => hP c _ _ _ (by rfl) h) (Or.inl ⟨Ev.wanted rfl, fun w_ => ?_⟩) rfl ?_
  · unfold execOp
    generalize a12.eval = ev at *
    go_simp
  obtain ⟨a13, qa13⟩ : ∃ z_, z_ = a12.put (some 61) (.int .i64 (if y < G j then G j else y)) := ⟨_, rfl⟩
  have k13 : Ev.Stay [49, 50, 51, 52, 53, 54, 55, 56, 57, 58, 59, 60, 61, 62] a a13 := by rw [qa13]; exact k12.put (by decide) _
  have e13_11 := Ev.oth qa13 (by decide) e12_11
  have e13_7 := Ev.oth qa13 (by decide) e12_7
  have e13_12 := Ev.oth qa13 (by decide) e12_12
  have e13_49 := Ev.oth qa13 (by decide) e12_49
  have e13_51 := Ev.oth qa13 (by decide) e12_51
  have e13_56 := Ev.oth qa13 (by decide) e12_56
  have e13_60 := Ev.oth qa13 (by decide) e12_60
  have e13_61 := Ev.sam qa13 (by rw [k12.1, hsz]; decide)
  rw [← qa13]
  clear qa13 e12_11 e12_7 e12_12 e12_49 e12_51 e12_56 e12_60
  clear e13_56
  clear e13_60
  refine pure_ (i := 13) (N := some 62) (v := .pointer (some ⟨gn, j + 1, none⟩)) #[true, true, true, true, true, true, true, true, true, true, true, true, true, true, false] (Rg.of hops (Rg.atS (Rg.atS (Rg.atS (Rg.atS (Rg.atS (Rg.atS (Rg.atS (Rg.atS (Rg.atS (Rg.atS (Rg.atS (Rg.atS (Rg.atS Rg.at0)))))))))))))) rfl (by kernel_rfl) (fun c _ _ h => hP c _ _ _ (by rfl) h) (Or.inl ⟨Ev.wanted rfl, fun w_ => ?_⟩) rfl ?_
  · have lk_ : (j : Int) + 1 < (m : Int) + 1 := by omega
    have lk0_ : (0 : Int) ≤ (j : Int) + 1 := by omega
    have lk2_ : (j : Int) < (m : Int) + 1 := by omega
    have lk3_ : (0 : Int) ≤ (j : Int) := by omega
    unfold execOp
    generalize a13.eval = ev at *
    go_simp
  obtain ⟨a14, qa14⟩ : ∃ z_, z_ = a13.put (some 62) (.pointer (some ⟨gn, j + 1, none⟩)) := ⟨_, rfl⟩
  have k14 : Ev.Stay [49, 50, 51, 52, 53, 54, 55, 56, 57, 58, 59, 60, 61, 62] a a14 := by rw [qa14]; exact k13.put (by decide) _
  have e14_11 := Ev.oth qa14 (by decide) e13_11
  have e14_7 := Ev.oth qa14 (by decide) e13_7
  have e14_12 := Ev.oth qa14 (by decide) e13_12
  have e14_49 := Ev.oth qa14 (by decide) e13_49
  have e14_51 := Ev.oth qa14 (by decide) e13_51
  have e14_61 := Ev.oth qa14 (by decide) e13_61
  have e14_62 := Ev.sam qa14 (by rw [k13.1, hsz]; decide)
  rw [← qa14]
  clear qa14 e13_11 e13_7 e13_12 e13_49 e13_51 e13_61
  clear e14_49
  clear e14_51
  refine last_ (i := 14) (N := none) #[true, true, true, true, true, true, true, true, true, true, true, true, true, true, true] (Rg.of hops (Rg.atS (Rg.atS (Rg.atS (Rg.atS (Rg.atS (Rg.atS (Rg.atS (Rg.atS (Rg.atS (Rg.atS (Rg.atS (Rg.atS (Rg.atS (Rg.atS Rg.at0))))))))))))))) rfl (by kernel_rfl) (by decide) (fun K hK => ?_)
  rw [if_pos (Ev.wanted rfl)]
  refine Ev.store rfl rfl e14_62 e14_61 (Ev.store3 (tab3_cell hHeld.2 (by omega)) (blk_frozen hHeld.2 (j + 1))) ?_
  refine hK.out _ _ ?_
  refine done_ (by kernel_rfl) ?_
  exact hQ _ k14 
set_option maxHeartbeats 2000000 in
theorem Rg.l13 {id : Nat} {Q : Exit → Act → World → Prop} {a : Act} {W : World} {k : Nat}
    (hsz : a.tmps.size = 71)  (h32 : a.eval (.tmp 32) = .int .i64 (k : Int)) (hk : k < 2000)
    (hQ : ∀ a', Ev.Stay [63, 32] a a' → a'.eval (.tmp 32) = .int .i64 ((k + 1 : Nat) : Int) → Q .normal a' (W)) : (Code.region id (Ru.ops 20 13) false).wp Try.prog Q a W := by
  refine wp_region_list ?_
  show wpList _ _ _ (_ :: _ :: []) _ _
  have k0 : Ev.Stay [63, 32] a a := Ev.Stay.refl [63, 32] a
  refine Ev.pv (N := 63) (v := .int .i64 ((k + 1 : Nat) : Int)) (W' := W) ?_ rfl rfl ?_
  · have ec0 : a.eval (.const (.int .i64 (1))) = .int .i64 (1) := rfl
    unfold execOp
    generalize a.eval = ev at *
    (go_simp; exact wr (by omega) (by omega))
  obtain ⟨a1, qa1⟩ : ∃ z_, z_ = a.put (some 63) (.int .i64 ((k + 1 : Nat) : Int)) := ⟨_, rfl⟩
  have k1 : Ev.Stay [63, 32] a a1 := by rw [qa1]; exact k0.put (by decide) _
  have e1_32 := Ev.oth qa1 (by decide) h32
  have e1_63 := Ev.sam qa1 (by rw [k0.1, hsz]; decide)
  rw [← qa1]
  clear qa1 
  refine Ev.pv (N := 32) (v := .int .i64 ((k + 1 : Nat) : Int)) (W' := W) ?_ rfl rfl ?_
  · unfold execOp
    generalize a1.eval = ev at *
    go_simp
  obtain ⟨a2, qa2⟩ : ∃ z_, z_ = a1.put (some 32) (.int .i64 ((k + 1 : Nat) : Int)) := ⟨_, rfl⟩
  have k2 : Ev.Stay [63, 32] a a2 := by rw [qa2]; exact k1.put (by decide) _
  have e2_63 := Ev.oth qa2 (by decide) e1_63
  have e2_32 := Ev.sam qa2 (by rw [k1.1, hsz]; decide)
  rw [← qa2]
  clear qa2 e1_32 e1_63
  exact hQ _ k2 e2_32
set_option maxHeartbeats 2000000 in
theorem Rg.l16 {id : Nat} {Q : Exit → Act → World → Prop} {a : Act} {W : World} {k : Nat}
    (hsz : a.tmps.size = 71)  (h23 : a.eval (.tmp 23) = .int .i64 (k : Int)) (hk : k < 2000)
    (hQ : ∀ a', Ev.Stay [69, 23] a a' → a'.eval (.tmp 23) = .int .i64 ((k + 1 : Nat) : Int) → Q .normal a' (W)) : (Code.region id (Ru.ops 20 16) false).wp Try.prog Q a W := by
  refine wp_region_list ?_
  show wpList _ _ _ (_ :: _ :: []) _ _
  have k0 : Ev.Stay [69, 23] a a := Ev.Stay.refl [69, 23] a
  refine Ev.pv (N := 69) (v := .int .i64 ((k + 1 : Nat) : Int)) (W' := W) ?_ rfl rfl ?_
  · have ec0 : a.eval (.const (.int .i64 (1))) = .int .i64 (1) := rfl
    unfold execOp
    generalize a.eval = ev at *
    (go_simp; exact wr (by omega) (by omega))
  obtain ⟨a1, qa1⟩ : ∃ z_, z_ = a.put (some 69) (.int .i64 ((k + 1 : Nat) : Int)) := ⟨_, rfl⟩
  have k1 : Ev.Stay [69, 23] a a1 := by rw [qa1]; exact k0.put (by decide) _
  have e1_23 := Ev.oth qa1 (by decide) h23
  have e1_69 := Ev.sam qa1 (by rw [k0.1, hsz]; decide)
  rw [← qa1]
  clear qa1 
  refine Ev.pv (N := 23) (v := .int .i64 ((k + 1 : Nat) : Int)) (W' := W) ?_ rfl rfl ?_
  · unfold execOp
    generalize a1.eval = ev at *
    go_simp
  obtain ⟨a2, qa2⟩ : ∃ z_, z_ = a1.put (some 23) (.int .i64 ((k + 1 : Nat) : Int)) := ⟨_, rfl⟩
  have k2 : Ev.Stay [69, 23] a a2 := by rw [qa2]; exact k1.put (by decide) _
  have e2_69 := Ev.oth qa2 (by decide) e1_69
  have e2_23 := Ev.sam qa2 (by rw [k1.1, hsz]; decide)
  rw [← qa2]
  clear qa2 e1_23 e1_69
  exact hQ _ k2 e2_23
set_option maxHeartbeats 2000000 in
theorem Rg.l14 {id : Nat} {Q : Exit → Act → World → Prop} {a : Act} {W : World} {gn m B n : Nat} {al : Value} {xs : List Value}
    (hsz : a.tmps.size = 71)  (h8 : a.eval (.tmp 8) = al) (h11 : a.eval (.tmp 11) = .slice (some ⟨gn, 0, none⟩) (m + 1) (m + 1)) (hown : W.ownsRow B 31 1 al n xs) (hn : n ≤ 1000) (hB : B ≤ W.heap.size)
    (hQ : ∀ a' v' W', Ev.Stay [64, 65, 66, 67, 8] a a' → a'.eval (.tmp 8) = v' → W'.ownsRow B 31 1 v' (n + 1) (xs ++ [.slice (some ⟨gn, 0, none⟩) (m + 1) (m + 1)]) → (W.alloc (.cells #[.slice (some ⟨gn, 0, none⟩) (m + 1) (m + 1)] 31)).grownBy W' al.ownBlock → Q .normal a' W') : (Code.region id (Ru.ops 20 14) false).wp Try.prog Q a W := by
  refine wp_region_list ?_
  show wpList _ _ _ (_ :: _ :: _ :: _ :: _ :: []) _ _
  have k0 : Ev.Stay [64, 65, 66, 67, 8] a a := Ev.Stay.refl [64, 65, 66, 67, 8] a
  refine Ev.pv (N := 64) (v := al) (W' := W) ?_ rfl rfl ?_
  · unfold execOp
    generalize a.eval = ev at *
    (simp [go_sem, *])
  obtain ⟨a1, qa1⟩ : ∃ z_, z_ = a.put (some 64) (al) := ⟨_, rfl⟩
  have k1 : Ev.Stay [64, 65, 66, 67, 8] a a1 := by rw [qa1]; exact k0.put (by decide) _
  have e1_8 := Ev.oth qa1 (by decide) h8
  have e1_11 := Ev.oth qa1 (by decide) h11
  have e1_64 := Ev.sam qa1 (by rw [k0.1, hsz]; decide)
  rw [← qa1]
  clear qa1 
  refine Ev.pv (N := 65) (v := .slice (some ⟨gn, 0, none⟩) (m + 1) (m + 1)) (W' := W) ?_ rfl rfl ?_
  · unfold execOp
    generalize a1.eval = ev at *
    go_simp
  obtain ⟨a2, qa2⟩ : ∃ z_, z_ = a1.put (some 65) (.slice (some ⟨gn, 0, none⟩) (m + 1) (m + 1)) := ⟨_, rfl⟩
  have k2 : Ev.Stay [64, 65, 66, 67, 8] a a2 := by rw [qa2]; exact k1.put (by decide) _
  have e2_8 := Ev.oth qa2 (by decide) e1_8
  have e2_11 := Ev.oth qa2 (by decide) e1_11
  have e2_64 := Ev.oth qa2 (by decide) e1_64
  have e2_65 := Ev.sam qa2 (by rw [k1.1, hsz]; decide)
  rw [← qa2]
  clear qa2 e1_8 e1_11 e1_64
  refine Ev.pv (N := 66) (v := .slice (some ⟨W.heap.size, 0, none⟩) 1 1) (W' := W.alloc (.cells #[.slice (some ⟨gn, 0, none⟩) (m + 1) (m + 1)] 31)) ?_ rfl rfl ?_
  · unfold execOp
    generalize a2.eval = ev at *
    go_simp
  obtain ⟨a3, qa3⟩ : ∃ z_, z_ = a2.put (some 66) (.slice (some ⟨W.heap.size, 0, none⟩) 1 1) := ⟨_, rfl⟩
  have k3 : Ev.Stay [64, 65, 66, 67, 8] a a3 := by rw [qa3]; exact k2.put (by decide) _
  have e3_8 := Ev.oth qa3 (by decide) e2_8
  have e3_11 := Ev.oth qa3 (by decide) e2_11
  have e3_64 := Ev.oth qa3 (by decide) e2_64
  have e3_65 := Ev.oth qa3 (by decide) e2_65
  have e3_66 := Ev.sam qa3 (by rw [k2.1, hsz]; decide)
  rw [← qa3]
  clear qa3 e2_8 e2_11 e2_64 e2_65
  clear e3_65
  have hu : (W.alloc (.cells #[.slice (some ⟨gn, 0, none⟩) (m + 1) (m + 1)] 31)).cell? ⟨W.heap.size, 0, none⟩ = some (.slice (some ⟨gn, 0, none⟩) (m + 1) (m + 1)) := (blk_cell (blk_new W _) 0).trans rfl
  refine wpList_plain rfl fun K hK => ?_
  refine Ev.append (.tmp 64) (.tmp 66) 46 31 (.slice none 0 0) 24 rfl Try.underlying46 (by kernel_rfl) rfl B al n xs e3_64 (hown.alloc _) W.heap.size (.slice (some ⟨gn, 0, none⟩) (m + 1) (m + 1)) e3_66 hu rfl (by unfold maxLen; omega) (by omega) (by rw [World.size_alloc]; omega) ?_
  intro v' w' ho hg ho2
  refine hK _ _ ?_
  clear hu
  obtain ⟨a4, qa4⟩ : ∃ z_, z_ = a3.put (some 67) (v') := ⟨_, rfl⟩
  have k4 : Ev.Stay [64, 65, 66, 67, 8] a a4 := by rw [qa4]; exact k3.put (by decide) _
  have e4_8 := Ev.oth qa4 (by decide) e3_8
  have e4_11 := Ev.oth qa4 (by decide) e3_11
  have e4_64 := Ev.oth qa4 (by decide) e3_64
  have e4_66 := Ev.oth qa4 (by decide) e3_66
  have e4_67 := Ev.sam qa4 (by rw [k3.1, hsz]; decide)
  show wpList _ _ _ _ (a3.put (some 67) v') w'
  rw [← qa4]
  clear qa4 e3_8 e3_11 e3_64 e3_66
  refine Ev.pv (N := 8) (v := v') (W' := w') ?_ rfl rfl ?_
  · unfold execOp
    generalize a4.eval = ev at *
    (simp [go_sem, *])
  obtain ⟨a5, qa5⟩ : ∃ z_, z_ = a4.put (some 8) (v') := ⟨_, rfl⟩
  have k5 : Ev.Stay [64, 65, 66, 67, 8] a a5 := by rw [qa5]; exact k4.put (by decide) _
  have e5_11 := Ev.oth qa5 (by decide) e4_11
  have e5_64 := Ev.oth qa5 (by decide) e4_64
  have e5_66 := Ev.oth qa5 (by decide) e4_66
  have e5_67 := Ev.oth qa5 (by decide) e4_67
  have e5_8 := Ev.sam qa5 (by rw [k4.1, hsz]; decide)
  rw [← qa5]
  clear qa5 e4_8 e4_11 e4_64 e4_66 e4_67
  exact hQ _ _ _ k5 e5_8 ho hg
set_option maxHeartbeats 2000000 in
theorem Rg.l15 {id : Nat} {Q : Exit → Act → World → Prop} {a : Act} {W : World} {v : Value}
    (hsz : a.tmps.size = 71)  (h11 : a.eval (.tmp 11) = v)
    (hQ : ∀ a', Ev.Stay [68, 7] a a' → a'.eval (.tmp 7) = v → Q .normal a' (W)) : (Code.region id (Ru.ops 20 15) false).wp Try.prog Q a W := by
  refine wp_region_list ?_
  show wpList _ _ _ (_ :: _ :: []) _ _
  have k0 : Ev.Stay [68, 7] a a := Ev.Stay.refl [68, 7] a
  refine Ev.pv (N := 68) (v := v) (W' := W) ?_ rfl rfl ?_
  · unfold execOp
    generalize a.eval = ev at *
    (simp [go_sem, *])
  obtain ⟨a1, qa1⟩ : ∃ z_, z_ = a.put (some 68) (v) := ⟨_, rfl⟩
  have k1 : Ev.Stay [68, 7] a a1 := by rw [qa1]; exact k0.put (by decide) _
  have e1_11 := Ev.oth qa1 (by decide) h11
  have e1_68 := Ev.sam qa1 (by rw [k0.1, hsz]; decide)
  rw [← qa1]
  clear qa1 
  refine Ev.pv (N := 7) (v := v) (W' := W) ?_ rfl rfl ?_
  · unfold execOp
    generalize a1.eval = ev at *
    (simp [go_sem, *])
  obtain ⟨a2, qa2⟩ : ∃ z_, z_ = a1.put (some 7) (v) := ⟨_, rfl⟩
  have k2 : Ev.Stay [68, 7] a a2 := by rw [qa2]; exact k1.put (by decide) _
  have e2_11 := Ev.oth qa2 (by decide) e1_11
  have e2_68 := Ev.oth qa2 (by decide) e1_68
  have e2_7 := Ev.sam qa2 (by rw [k1.1, hsz]; decide)
  rw [← qa2]
  clear qa2 e1_11 e1_68
  exact hQ _ k2 e2_7
set_option maxHeartbeats 2000000 in
theorem Rg.l17 {id : Nat} {Q : Exit → Act → World → Prop} {a : Act} {W : World} {v : Value}
    (hsz : a.tmps.size = 71)  (h8 : a.eval (.tmp 8) = v)
    (hQ : ∀ a', Ev.Stay [70, 6] a a' → a'.eval (.tmp 6) = v → Q .normal a' (W)) : (Code.region id (Ru.ops 20 17) false).wp Try.prog Q a W := by
  refine wp_region_list ?_
  show wpList _ _ _ (_ :: _ :: []) _ _
  have k0 : Ev.Stay [70, 6] a a := Ev.Stay.refl [70, 6] a
  refine Ev.pv (N := 70) (v := v) (W' := W) ?_ rfl rfl ?_
  · unfold execOp
    generalize a.eval = ev at *
    (simp [go_sem, *])
  obtain ⟨a1, qa1⟩ : ∃ z_, z_ = a.put (some 70) (v) := ⟨_, rfl⟩
  have k1 : Ev.Stay [70, 6] a a1 := by rw [qa1]; exact k0.put (by decide) _
  have e1_8 := Ev.oth qa1 (by decide) h8
  have e1_70 := Ev.sam qa1 (by rw [k0.1, hsz]; decide)
  rw [← qa1]
  clear qa1 
  refine Ev.pv (N := 6) (v := v) (W' := W) ?_ rfl rfl ?_
  · unfold execOp
    generalize a1.eval = ev at *
    (simp [go_sem, *])
  obtain ⟨a2, qa2⟩ : ∃ z_, z_ = a1.put (some 6) (v) := ⟨_, rfl⟩
  have k2 : Ev.Stay [70, 6] a a2 := by rw [qa2]; exact k1.put (by decide) _
  have e2_8 := Ev.oth qa2 (by decide) e1_8
  have e2_70 := Ev.oth qa2 (by decide) e1_70
  have e2_6 := Ev.sam qa2 (by rw [k1.1, hsz]; decide)
  rw [← qa2]
  clear qa2 e1_8 e1_70
  exact hQ _ k2 e2_6
/-- A list of so many numbers, each told by its place. -/
def tabulate (n : Nat) (f : Nat → Int) : List Int := (List.range n).map f
theorem tabulate_length (n : Nat) (f : Nat → Int) : (tabulate n f).length = n := by unfold tabulate; rw [List.length_map, List.length_range]
theorem rd_tabulate (n : Nat) (f : Nat → Int) (j : Nat) (h : j < n) : rd (tabulate n f) (j : Int) = f j := by
  rw [rd_at _ (by rw [tabulate_length]; exact h)]; unfold tabulate; rw [List.getElem_map, List.getElem_range]
theorem eq_tabulate (l : List Int) (n : Nat) (f : Nat → Int) (hl : l.length = n) (h : ∀ j, j < n → rd l (j : Int) = f j) : l = tabulate n f := by
  apply list_ext (by rw [hl, tabulate_length])
  intro j hj; rw [rd_tabulate _ _ _ (by omega), h j (by omega)]
/-- Number j of the row of steps. -/
def rowD (first : Int) (d : List Int) : Nat → Int
  | 0 => first
  | j + 1 => if rd d (j : Int) = 0 then rowD first d j else wrap64 (rowD first d j + 1)
theorem deltaRow_l0 (first : Int) (dd : List Int) (hl : dd.length ≤ 1000000) (d : Nat) : ∀ (k i : Nat) (t : List Int), i + d = dd.length → d < k → t.length = i + 1 → (∀ j, j ≤ i → rd t (j : Int) = rowD first dd j) →
    delta_Row.l0 k t dd (dd.length : Int) (i : Int) = some (tabulate (dd.length + 1) (rowD first dd)) := by
  induction d with
  | zero =>
    intro k i t hi hk ht h
    obtain ⟨k, rfl⟩ := round hk
    simp only [delta_Row.l0]
    rw [if_neg (by omega)]
    exact congrArg some (eq_tabulate t _ _ (by omega) (fun j hj => h j (by omega)))
  | succ d ih =>
    intro k i t hi hk ht h
    obtain ⟨k, rfl⟩ := round hk
    simp only [delta_Row.l0]
    rw [if_pos (by omega), if_pos (by omega), if_pos (by omega), if_pos (by omega), wrap_succ (by omega), h i (Nat.le_refl _)]
    have go : ∀ v, v = rowD first dd (i + 1) → delta_Row.l0 k (t ++ [v]) dd (dd.length : Int) ((i + 1 : Nat) : Int) = some (tabulate (dd.length + 1) (rowD first dd)) := by
      intro v hv
      refine ih k (i + 1) _ (by omega) (by omega) (by rw [List.length_append, List.length_singleton]; omega) ?_
      intro j hj
      rw [rd_app _ _ _ (by omega)]
      by_cases e : j = t.length
      · rw [if_pos e, hv, e, ht]
      · rw [if_neg e]; exact h j (by omega)
    by_cases c : rd dd (i : Int) = 0
    · rw [if_pos c, if_pos (by omega)]; exact go _ (by rw [rowD, if_pos c])
    · rw [if_neg c, if_pos (by omega)]; exact go _ (by rw [rowD, if_neg c])
theorem deltaRow (first : Int) (dd : List Int) (hl : dd.length ≤ 1000000) {k : Nat} (hk : dd.length < k) : delta_Row.f k first dd = some (tabulate (dd.length + 1) (rowD first dd)) := by
  unfold delta_Row.f
  exact deltaRow_l0 first dd hl dd.length k 0 [first] (by omega) hk rfl (fun j hj => by rw [show j = 0 by omega]; rfl)
theorem rowD_Tb {la lb : List Int} {i m : Nat} (hm : m ≤ 1000) : ∀ j, j ≤ m → rowD 0 ((List.range m).map (Dr la lb i)) j = Tb la lb i j
  | 0, _ => (Tb_i0 i).symm
  | j + 1, hj => by
    have hd := Dr_bd (a := la) (b := lb) i j
    have hb := Tb_bd (a := la) (b := lb) i j
    have e : Tb la lb i (j + 1) = Tb la lb i j + Dr la lb i j := by unfold Dr; omega
    rw [rowD, rd_range (by omega), rowD_Tb hm j (by omega), e]
    by_cases c : Dr la lb i j = 0
    · rw [if_pos c, c]; omega
    · rw [if_neg c, wrap_id (by omega) (by omega)]; omega
/-- A row of numbers in memory, with what may stand behind it. -/
def Lr (W : World) (g m : Nat) (G : Nat → Int) : Prop := (∃ c, W.heap[g]? = some (.cells c 3 (0, 0))) ∧ ∀ j, j ≤ m → W.cell? ⟨g, j, none⟩ = some (.int .i64 (G j))
theorem Lr.kept {W W' : World} {g m : Nat} {G : Nat → Int} {X : Nat → Prop} (h : Lr W g m G) (hk : Kept W W' X) (hX : ¬ X g) : Lr W' g m G := by
  obtain ⟨⟨c, hc⟩, h2⟩ := h
  exact ⟨⟨c, (hk.2 g (blk_lt hc) hX).trans hc⟩, fun j hj => cell_kept (h2 j hj) hk hX⟩
theorem Lr.lt {W : World} {g m : Nat} {G : Nat → Int} (h : Lr W g m G) : g < W.heap.size := by
  obtain ⟨⟨c, hc⟩, _⟩ := h
  exact blk_lt hc
theorem Lr.of {W : World} {g m : Nat} {G G' : Nat → Int} (h : W.heap[g]? = some (.cells (tab3 (m + 1) G) 3 (0, 0))) (hG : ∀ j, j ≤ m → G j = G' j) : Lr W g m G' := ⟨⟨_, h⟩, fun j hj => by rw [← hG j hj]; exact tab3_cell h (by omega)⟩
theorem row_calls {W : World} {g wd m i : Nat} {la lb : List Int} (hg : W.heap[g]? = some (.cells (tabA wd (Dr la lb i)) 5 (0, 0))) (hm : m ≤ wd) (hw : wd ≤ 1000) :
    Calls Try.prog 26 #[.int .i64 0, .slice (some ⟨g, 0, none⟩) m wd] W fun e w' => ∃ v, e = .returned v ∧ (∃ gr cap, v = .slice (some ⟨gr, 0, none⟩) (m + 1) cap ∧ W.heap.size ≤ gr ∧ Lr w' gr m (Tb la lb i)) ∧ Below W.heap.size W w' := by
  have hl : ((List.range m).map (Dr la lb i)).length = m := by simp
  have hC : Kd.C (Kd.int .u8) W (some ⟨g, 0, none⟩) m ((List.range m).map (Dr la lb i)) := by
    refine Kd.C_of_reads (d := (0 : Int)) (h1 := fun _ => rfl) ⟨by simp, by omega, fun _ => ⟨_, rfl, fun j hj => ?_⟩⟩
    have h := tab_cell hg (show j < wd by omega)
    have e : (⟨g, 0, none⟩ : Addr).add j = ⟨g, j, none⟩ := by simp [Addr.add]; exact fun h => h.symm
    rw [e, h]
    congr 2
    simp [List.getD_eq_getElem?_getD, hj]
  have hf := deltaRow 0 ((List.range m).map (Dr la lb i)) (by omega) (k := m + 1) (by omega)
  have h := delta_Row.calls (m + 1) 0 (some ⟨g, 0, none⟩) wd ((List.range m).map (Dr la lb i)) _ W (by rw [hl]; exact hC) (by omega) hf
  rw [hl] at h
  refine h.mono ?_
  rintro e w' ⟨v, rfl, hR, hB⟩
  refine ⟨v, rfl, ?_, hB⟩
  obtain ⟨inner, ho⟩ := Kd.R_own hR
  rw [tabulate_length] at ho
  obtain ⟨gr, cap, rfl, hbase, _⟩ := World.ownsRow.form ho (by omega)
  obtain ⟨A, c, he, _, hC2⟩ := Kd.R_reads hR
  injection he with hA hn hc
  subst hA
  have hr := Kd.reads_of_C (d := (0 : Int)) hC2
  refine ⟨gr, cap, rfl, hbase, own_typed ho gr rfl, fun j hj => ?_⟩
  obtain ⟨ad, had, hcell⟩ := hr.2.2 (by rw [tabulate_length]; omega)
  injection had with had
  subst had
  have e : (⟨gr, 0, none⟩ : Addr).add j = ⟨gr, j, none⟩ := by simp [Addr.add]; exact fun h => h.symm
  have h1 := hcell j (by rw [tabulate_length]; omega)
  rw [e] at h1
  rw [h1, ← rd_d, rd_tabulate _ _ _ (by omega), rowD_Tb (by omega) j hj]
noncomputable def Li.R (k : Nat) : Code := .region k (Ru.ops 20 k) false
noncomputable def Li.D (k : Nat) : Code := .region k (Ru.ops 20 k) true
noncomputable def Li.bodyB : Code := .seq (Li.R 8) (.seq (.cond (.tmp 33) .skip (.exit 2)) (.seq (.block 3 (.seq (Li.R 9) (.seq (Li.R 10) (.cond (.tmp 39) (Li.R 11) (Li.D 12))))) (Li.R 13)))
noncomputable def Li.bodyA : Code := .seq (Li.R 4) (.seq (.cond (.tmp 24) .skip (.exit 0)) (.seq (.block 1 (.seq (Li.R 5) (.seq (Li.R 6) (.seq (.seq (Li.R 7) (.block 2 (.loop Li.bodyB))) (.seq (Li.R 14) (Li.R 15)))))) (Li.R 16)))
noncomputable def Li.code : Code := .seq (Li.R 0) (.seq (Li.R 1) (.seq (Li.R 2) (.seq (.seq (Li.R 3) (.block 0 (.loop Li.bodyA))) (.seq (Li.R 17) .ret))))
def Li.LB : List Nat := 12 :: 13 :: List.range' 32 32
def Li.LA : List Nat := 7 :: 8 :: 10 :: 11 :: 12 :: 13 :: List.range' 23 47
section
variable {Q : Exit → Act → World → Prop} {w : World} {la lb : List Int}
theorem Li.loopB {g gn cap i c2 : Nat} {A2 : Option Addr} {x : Int} (hlb : lb.length ≤ 100) (hgn : w.heap.size ≤ gn) (hne : g ≠ gn) (hP : Rg.PQ Q) (Hx : ∀ j, j < lb.length → (x = lb.getD j 0 ↔ Mt la lb i j)) (Hb : Kd.C (Kd.int .i64) w A2 lb.length lb) :
    ∀ (n j : Nat) (a : Act) (W : World) (G : Nat → Int), j + n = lb.length → a.tmps.size = 71 → a.eval (.tmp 7) = .slice (some ⟨g, 0, none⟩) (lb.length + 1) cap → a.eval (.tmp 10) = .int .i64 x → a.eval (.tmp 11) = .slice (some ⟨gn, 0, none⟩) (lb.length + 1) (lb.length + 1) → a.eval (.tmp 30) = .slice A2 lb.length c2 → a.eval (.tmp 31) = .int .i64 (lb.length : Int) → a.eval (.tmp 32) = .int .i64 (j : Int) → Below w.heap.size w W → Lr W g lb.length (Tb la lb i) → W.heap[gn]? = some (.cells (tab3 (lb.length + 1) G) 3 (0, 0)) → (∀ c, c ≤ j → G c = Tb la lb (i + 1) c) →
      (∀ a' W' G', Ev.Stay Li.LB a a' → W'.heap[gn]? = some (.cells (tab3 (lb.length + 1) G') 3 (0, 0)) → (∀ c, c ≤ lb.length → G' c = Tb la lb (i + 1) c) → Kept W W' (fun k => k = gn) → Below w.heap.size W W' → Q (.exit 2) a' W') → Code.rounds Try.prog Li.bodyB Q (n + 1) a W
  | 0, j, a, W, G, hk, hsz, e7, e10, e11, e30, e31, e32, hB, hL, hn, hG, hQ => by
    rw [rounds_succ]
    refine wp_seq (Rg.l8 hsz e32 e31 ?_)
    intro a1 k1 e
    refine wp_seq (wp_cond_false (by rw [e, decide_eq_false (by omega)]) (wp_exit ?_))
    show Q (.exit 2) a1 W
    exact hQ a1 W G (k1.trans (Ev.Stay.refl [] _) (by decide) (by decide)) hn (fun c hc => hG c (by omega)) (Kept.refl _ _) (Below.refl _ _)
  | n + 1, j, a, W, G, hk, hsz, e7, e10, e11, e30, e31, e32, hB, hL, hn, hG, hQ => by
    rw [rounds_succ]
    refine wp_seq (Rg.l8 hsz e32 e31 ?_)
    intro a1 k1 e
    refine wp_seq (wp_cond_true (by rw [e, decide_eq_true (by omega)]) (wp_skip ?_))
    obtain ⟨ad, rfl, hcell⟩ := (Kd.reads_of_C (d := (0 : Int)) (Kd.C_below Hb hB)).2.2 (by omega)
    refine wp_seq (wp_block (wp_seq (Rg.l9 (ad := ad) (j := j) (y := lb.getD j 0) (k1.1.trans hsz) ((k1.2.2 30 (by decide)).trans e30) ((k1.2.2 32 (by decide)).trans e32) (by omega) (hcell j (by omega)) ?_)))
    intro a2 k2 e12 e13
    show Code.wp _ _ _ _ _
    have st2 : Ev.Stay Li.LB a a2 := k1.trans k2 (by decide) (by decide)
    refine wp_seq (Rg.l10 (st2.1.trans hsz) ((st2.2.2 10 (by decide)).trans e10) e13 ?_)
    intro a3 k3 e39
    have st3 : Ev.Stay Li.LB a a3 := st2.trans k3 (fun _ h => h) (by decide)
    have f12 : a3.eval (.tmp 12) = .int .i64 (j : Int) := (k3.2.2 12 (by decide)).trans e12
    have f32 : a3.eval (.tmp 32) = .int .i64 (j : Int) := (k3.2.2 32 (by decide)).trans ((k2.2.2 32 (by decide)).trans ((k1.2.2 32 (by decide)).trans e32))
    have next : ∀ (a4 : Act) (W3 : World) (v : Int), Ev.Stay Li.LB a a4 → a4.eval (.tmp 32) = .int .i64 (j : Int) → Below w.heap.size W W3 → Kept W W3 (fun k => k = gn) → W3.heap[gn]? = some (.cells (tab3 (lb.length + 1) (upd G (j + 1) v)) 3 (0, 0)) → v = Tb la lb (i + 1) (j + 1) → Code.wp Try.prog (Li.R 13) (Exit.then (Code.rounds Try.prog Li.bodyB Q (n + 1)) Q) a4 W3 := by
      intro a4 W3 v st4 g32 B3 K3 hn3 hv
      refine Rg.l13 (k := j) (st4.1.trans hsz) g32 (by omega) ?_
      intro a5 k5 e32'
      show Code.rounds _ _ _ _ _ _
      have st5 : Ev.Stay Li.LB a a5 := st4.trans k5 (fun _ h => h) (by decide)
      refine Li.loopB hlb hgn hne hP Hx Hb n (j + 1) a5 W3 _ (by omega) (st5.1.trans hsz) ((st5.2.2 7 (by decide)).trans e7) ((st5.2.2 10 (by decide)).trans e10) ((st5.2.2 11 (by decide)).trans e11) ((st5.2.2 30 (by decide)).trans e30) ((st5.2.2 31 (by decide)).trans e31) e32' (hB.trans B3) (hL.kept K3 hne) hn3 ?_ ?_
      · intro c hc
        show (if c = j + 1 then v else G c) = _
        by_cases q : c = j + 1
        · rw [if_pos q, q, hv]
        · rw [if_neg q]; exact hG c (by omega)
      · intro a' W' G' st' hn' hG' hK' hB'
        exact hQ a' W' G' (st5.trans st' (fun _ h => h) (fun _ h => h)) hn' hG' (K3.then_ hK' (fun _ h => Or.inl h)) (B3.trans hB')
    have hb1 := Tb_bd (a := la) (b := lb) i j
    have hc1 := hL.2 j (by omega)
    have hc2 := hL.2 (j + 1) (by omega)
    by_cases hx : x = lb.getD j 0
    · have hM := (Hx j (by omega)).mp hx
      refine wp_cond_true (by rw [e39]; congr 1; simpa using hx) ?_
      refine Rg.l11 (g := g) (gn := gn) (m := lb.length) (j := j) (x := Tb la lb i j) (G := G) (st3.1.trans hsz) ((st3.2.2 11 (by decide)).trans e11) ((st3.2.2 7 (by decide)).trans e7) f12 hc1 (by omega) hn (by omega) (by omega) ?_
      intro a4 k4
      show Code.wp _ _ _ _ _
      exact next a4 _ _ (st3.trans k4 (fun _ h => h) (by decide)) ((k4.2.2 32 (by decide)).trans f32) ((Below.refl _ _).setCell (p := ⟨gn, j + 1, none⟩) hgn _) (Kept.setCell (S := fun k => k = gn) (Kept.refl W _) (p := ⟨gn, j + 1, none⟩) (Or.inl rfl) _) (tab3_set hn _) (by rw [Tb_ss, if_pos hM])
    · have hM : ¬ Mt la lb i j := fun h => hx ((Hx j (by omega)).mpr h)
      refine wp_cond_false (by rw [e39]; congr 1; simpa using hx) ?_
      refine Rg.l12 (g := g) (gn := gn) (m := lb.length) (j := j) (y := Tb la lb i (j + 1)) (G := G) (st3.1.trans hsz) (fun c a a' w hd h => hP c a a' w hd h) ((st3.2.2 11 (by decide)).trans e11) ((st3.2.2 7 (by decide)).trans e7) f12 hc2 hn (by omega) (by omega) ?_
      intro a4 k4
      show Code.wp _ _ _ _ _
      exact next a4 _ _ (st3.trans k4 (fun _ h => h) (by decide)) ((k4.2.2 32 (by decide)).trans f32) ((below_drew1 (Below.refl _ _)).setCell (p := ⟨gn, j + 1, none⟩) hgn _) (Kept.setCell (S := fun k => k = gn) ((Kept.refl W _).drew) (p := ⟨gn, j + 1, none⟩) (Or.inl rfl) _) (tab3_set (W := W.drew) hn _) (by rw [Tb_ss, if_neg hM, hG j (Nat.le_refl _)])
end
def rowsC (gs cp : Nat → Nat) (m n : Nat) : List Value := (List.range n).map fun r => Value.slice (some ⟨gs r, 0, none⟩) (m + 1) (cp r)
theorem rowsC_snoc {gs cp : Nat → Nat} {m n g c : Nat} : rowsC gs cp m n ++ [Value.slice (some ⟨g, 0, none⟩) (m + 1) c] = rowsC (fun r => if r = n then g else gs r) (fun r => if r = n then c else cp r) m (n + 1) := by
  unfold rowsC
  have e1 : ∀ r ∈ List.range n, (Value.slice (some ⟨gs r, 0, none⟩) (m + 1) (cp r)) = (Value.slice (some ⟨if r = n then g else gs r, 0, none⟩) (m + 1) (if r = n then c else cp r)) := by
    intro r hr
    have := List.mem_range.mp hr
    rw [if_neg (by omega), if_neg (by omega)]
  rw [List.range_succ, List.map_append, List.map_singleton, List.map_congr_left e1]
  show _ ++ [_] = _ ++ [Value.slice (some ⟨if n = n then g else gs n, 0, none⟩) (m + 1) (if n = n then c else cp n)]
  rw [if_pos rfl, if_pos rfl]
/-- The rows of lines in memory. -/
structure Ls (W : World) (B m n : Nat) (al : Value) (gs cp : Nat → Nat) (G : Nat → Nat → Int) : Prop where
  own : W.ownsRow B 31 1 al n (rowsC gs cp m n)
  row : ∀ r, r < n → Lr W (gs r) m (G r)
  base : ∀ r, r < n → B ≤ gs r
theorem Ls.kept {W W' : World} {B m n : Nat} {al : Value} {gs cp : Nat → Nat} {G : Nat → Nat → Int} {X : Nat → Prop} (h : Ls W B m n al gs cp G) (hk : Kept W W' X) (hX : ∀ k, X k → k < B ∨ W.heap.size ≤ k) : Ls W' B m n al gs cp G := by
  refine ⟨own_move h.own (fun k hk' => hk.2 k (own_lt h.own k hk') (fun q => ?_)), fun r hr => (h.row r hr).kept hk (fun q => ?_), h.base⟩
  · have := hX k q; have := own_base h.own k hk'; have := own_lt h.own k hk'; omega
  · have := hX _ q; have := h.base r hr; have := (h.row r hr).lt; omega
section
variable {Q : Exit → Act → World → Prop} {w : World} {la lb xs : List Int}
theorem Li.loopA {i c1 c2 : Nat} {A1 A2 : Option Addr} (hlb : lb.length ≤ 100) (hxs : xs.length ≤ 100) (hP : Rg.PQ Q) (HX : ∀ r, r < xs.length → i + r < la.length ∧ xs.getD r 0 = la.getD (i + r) 0) (Ha : Kd.C (Kd.int .i64) w A1 xs.length xs) (Hb : Kd.C (Kd.int .i64) w A2 lb.length lb) :
    ∀ (n k : Nat) (a : Act) (W : World) (al : Value) (gs cp : Nat → Nat), k + n = xs.length → a.tmps.size = 71 → a.eval (.tmp 1) = .slice A2 lb.length c2 → a.eval (.tmp 7) = .slice (some ⟨gs k, 0, none⟩) (lb.length + 1) (cp k) → a.eval (.tmp 8) = al → a.eval (.tmp 21) = .slice A1 xs.length c1 → a.eval (.tmp 22) = .int .i64 (xs.length : Int) → a.eval (.tmp 23) = .int .i64 (k : Int) → Below w.heap.size w W → Ls W w.heap.size lb.length (k + 1) al gs cp (fun r => Tb la lb (i + r)) →
      (∀ a' W' al' gs' cp', Ev.Stay Li.LA a a' → a'.eval (.tmp 8) = al' → Ls W' w.heap.size lb.length (xs.length + 1) al' gs' cp' (fun r => Tb la lb (i + r)) → Below w.heap.size w W' → Q (.exit 0) a' W') → Code.rounds Try.prog Li.bodyA Q (n + 1) a W
  | 0, k, a, W, al, gs, cp, hk, hsz, e1, e7, e8, e21, e22, e23, hB, hL, hQ => by
    rw [rounds_succ]
    obtain rfl : k = xs.length := by omega
    refine wp_seq (Rg.l4 hsz e23 e22 ?_)
    intro a1 k1 e
    refine wp_seq (wp_cond_false (by rw [e, decide_eq_false (by omega)]) (wp_exit ?_))
    show Q (.exit 0) a1 W
    exact hQ a1 W al gs cp (k1.trans (Ev.Stay.refl [] _) (by decide) (by decide)) ((k1.2.2 8 (by decide)).trans e8) hL hB
  | n + 1, k, a, W, al, gs, cp, hk, hsz, e1, e7, e8, e21, e22, e23, hB, hL, hQ => by
    rw [rounds_succ]
    refine wp_seq (Rg.l4 hsz e23 e22 ?_)
    intro a1 k1 e
    refine wp_seq (wp_cond_true (by rw [e, decide_eq_true (by omega)]) (wp_skip ?_))
    obtain ⟨ad, rfl, hcell⟩ := (Kd.reads_of_C (d := (0 : Int)) (Kd.C_below Ha hB)).2.2 (by omega)
    refine wp_seq (wp_block (wp_seq (Rg.l5 (ad := ad) (k := k) (x := xs.getD k 0) (k1.1.trans hsz) ((k1.2.2 21 (by decide)).trans e21) ((k1.2.2 23 (by decide)).trans e23) (by omega) (hcell k (by omega)) ?_)))
    intro a2 k2 e10
    show Code.wp _ _ _ _ _
    have st2 : Ev.Stay Li.LA a a2 := k1.trans k2 (by decide) (by decide)
    refine wp_seq (Rg.l6 (st2.1.trans hsz) ((k2.2.2 7 (by decide)).trans ((k1.2.2 7 (by decide)).trans e7)) (by omega) ?_)
    intro a3 k3 e11
    have st3 : Ev.Stay Li.LA a a3 := st2.trans k3 (fun _ h => h) (by decide)
    have hgk := hL.row k (by omega)
    have B1 : Below W.heap.size W (W.alloc (.cells (tab3 (lb.length + 1) (fun _ => 0)) 3)) := below_alloc (Below.refl _ _) _
    have hn1 : (W.alloc (.cells (tab3 (lb.length + 1) (fun _ => 0)) 3)).heap[W.heap.size]? = some (.cells (tab3 (lb.length + 1) (fun _ => 0)) 3 (0, 0)) := blk_new W _
    generalize (W.alloc (.cells (tab3 (lb.length + 1) (fun _ => 0)) 3)) = W1 at B1 hn1 ⊢
    have Bw1 : Below w.heap.size w W1 := hB.trans (B1.mono hB.size)
    refine wp_seq (wp_seq (Rg.l7 (st3.1.trans hsz) ((st3.2.2 1 (by decide)).trans e1) ?_))
    intro a4 k4 e30 e31 e32
    have st4 : Ev.Stay Li.LA a a4 := st3.trans k4 (fun _ h => h) (by decide)
    refine wp_block (wp_loop_rounds (lb.length + 1) ?_)
    refine Li.loopB (g := gs k) (gn := W.heap.size) (cap := cp k) (i := i + k) (c2 := c2) (A2 := A2) (x := xs.getD k 0) hlb hB.size (by have := hgk.lt; omega) ?hP2 ?Hx Hb lb.length 0 a4 W1 (fun _ => 0) (by omega) (st4.1.trans hsz) ((k4.2.2 7 (by decide)).trans ((k3.2.2 7 (by decide)).trans ((k2.2.2 7 (by decide)).trans ((k1.2.2 7 (by decide)).trans e7)))) ((k4.2.2 10 (by decide)).trans ((k3.2.2 10 (by decide)).trans e10)) ((k4.2.2 11 (by decide)).trans e11) e30 e31 e32 Bw1 (hgk.kept (Kept.of_below B1 (fun _ => False)) (fun h => h)) hn1 ?h0 ?_
    case hP2 => exact fun c a a' w hd h => hP c a a' w hd h
    case Hx =>
      intro j hj
      have h := HX k (by omega)
      rw [h.2]
      exact ⟨fun q => ⟨h.1, hj, q⟩, fun q => q.2.2⟩
    case h0 =>
      intro c hc
      obtain rfl : c = 0 := by omega
      exact (Tb_i0 _).symm
    intro a5 W2 G k5 hn2 hG2 K2 B2
    show Code.wp _ _ _ _ _
    have st5 : Ev.Stay Li.LA a a5 := st4.trans k5 (fun _ h => h) (by decide)
    have KW2 : Kept W W2 (fun k => W.heap.size ≤ k) := (Kept.of_below B1 _).then_ K2 (fun k h => Or.inl (by omega))
    have L2 := hL.kept KW2 (fun k h => Or.inr h)
    have Bw2 := Bw1.trans B2
    refine wp_seq (Rg.l14 (gn := W.heap.size) (m := lb.length) (B := w.heap.size) (n := k + 1) (al := al) (xs := rowsC gs cp lb.length (k + 1)) (st5.1.trans hsz) ((k5.2.2 8 (by decide)).trans ((k4.2.2 8 (by decide)).trans ((k3.2.2 8 (by decide)).trans ((k2.2.2 8 (by decide)).trans ((k1.2.2 8 (by decide)).trans e8))))) ((k5.2.2 11 (by decide)).trans ((k4.2.2 11 (by decide)).trans e11)) L2.own (by omega) Bw2.size ?_)
    intro a6 al' W3 k6 e8' ho hg
    show Code.wp _ _ _ _ _
    have st6 : Ev.Stay Li.LA a a6 := st5.trans k6 (fun _ h => h) (by decide)
    have hgr : W2.grownBy W3 al.ownBlock := (World.grownBy_alloc W2 _ _).trans hg
    have KW3 : Kept W2 W3 (fun k => al.ownBlock = some k) := ⟨hgr.size, fun k hk hn => hgr.block k hk (fun q => hn q.symm)⟩
    have ty : ∀ k c e, W2.heap[k]? = some (.cells c e (0, 0)) → e ≠ 31 → ¬ al.ownBlock = some k := by
      intro k c e hc he q
      obtain ⟨cs, h2⟩ := own_typed L2.own k q
      rw [hc] at h2
      injection h2 with h2
      injection h2 with _ h3
      exact he h3
    have L3 : Ls W3 w.heap.size lb.length (k + 1 + 1) al' (fun r => if r = k + 1 then W.heap.size else gs r) (fun r => if r = k + 1 then lb.length + 1 else cp r) (fun r => Tb la lb (i + r)) := by
      refine ⟨?_, fun r hr => ?_, fun r hr => ?_⟩
      · rw [← rowsC_snoc]; exact ho
      · by_cases q : r = k + 1
        · rw [if_pos q, q]
          exact (Lr.of hn2 hG2).kept KW3 (ty _ _ _ hn2 (by decide))
        · rw [if_neg q]
          have h := L2.row r (by omega)
          obtain ⟨⟨c, hc⟩, _⟩ := id h
          exact h.kept KW3 (ty _ _ _ hc (by decide))
      · by_cases q : r = k + 1
        · rw [if_pos q]; exact hB.size
        · rw [if_neg q]; exact L2.base r (by omega)
    have Bw3 : Below w.heap.size w W3 := Bw2.grown hgr Bw2.size (fun k h => own_base L2.own k h)
    refine Rg.l15 (st6.1.trans hsz) ((k6.2.2 11 (by decide)).trans ((k5.2.2 11 (by decide)).trans ((k4.2.2 11 (by decide)).trans e11))) ?_
    intro a7 k7 e7'
    show Code.wp _ _ _ _ _
    have st7 : Ev.Stay Li.LA a a7 := st6.trans k7 (fun _ h => h) (by decide)
    refine Rg.l16 (k := k) (st7.1.trans hsz) ((k7.2.2 23 (by decide)).trans ((k6.2.2 23 (by decide)).trans ((k5.2.2 23 (by decide)).trans ((k4.2.2 23 (by decide)).trans ((k3.2.2 23 (by decide)).trans ((k2.2.2 23 (by decide)).trans ((k1.2.2 23 (by decide)).trans e23))))))) (by omega) ?_
    intro a8 k8 e23'
    show Code.rounds _ _ _ _ _ _
    have st8 : Ev.Stay Li.LA a a8 := st7.trans k8 (fun _ h => h) (by decide)
    refine Li.loopA hlb hxs hP HX Ha Hb n (k + 1) a8 W3 al' (fun r => if r = k + 1 then W.heap.size else gs r) (fun r => if r = k + 1 then lb.length + 1 else cp r) (by omega) (st8.1.trans hsz) ((st8.2.2 1 (by decide)).trans e1) ?_ ((k8.2.2 8 (by decide)).trans ((k7.2.2 8 (by decide)).trans e8')) ((st8.2.2 21 (by decide)).trans e21) ((st8.2.2 22 (by decide)).trans e22) e23' Bw3 L3 ?_
    · show _ = Value.slice (some ⟨if k + 1 = k + 1 then W.heap.size else gs (k + 1), 0, none⟩) (lb.length + 1) (if k + 1 = k + 1 then lb.length + 1 else cp (k + 1))
      rw [if_pos rfl, if_pos rfl]
      exact (k8.2.2 7 (by decide)).trans e7'
    · intro a' W' al2 gs2 cp2 st' h8 hL' hB'
      exact hQ a' W' al2 gs2 cp2 (st8.trans st' (fun _ h => h) (fun _ h => h)) h8 hL' hB'
end
theorem Li.res {a : Act} {W : World} {v : Value} (h6 : a.eval (.tmp 6) = v) : (results Try.f20 a.tmps).run Try.prog W = .ok v W := by
  have e6 : a.tmps[6]?.getD undef = v := by simpa [Act.eval] using h6
  simp [results, Try.results20, go_sem, e6]
/-- russ.lines: the rows of the table within a row of squares. -/
theorem lines_calls {A1 A2 : Option Addr} {c1 c2 g wd i : Nat} {la lb xs : List Int} (w : World) (hg : w.heap[g]? = some (.cells (tabA wd (Dr la lb i)) 5 (0, 0))) (hm : lb.length ≤ wd) (hw : wd ≤ 1000) (hlb : lb.length ≤ 100) (hxs : xs.length ≤ 100) (HX : ∀ r, r < xs.length → i + r < la.length ∧ xs.getD r 0 = la.getD (i + r) 0) (Ha : Kd.C (Kd.int .i64) w A1 xs.length xs) (Hb : Kd.C (Kd.int .i64) w A2 lb.length lb) :
    Calls Try.prog 20 #[.slice A1 xs.length c1, .slice A2 lb.length c2, .slice (some ⟨g, 0, none⟩) wd wd] w fun e w' => ∃ al gs cp, e = .returned al ∧ Ls w' w.heap.size lb.length (xs.length + 1) al gs cp (fun r => Tb la lb (i + r)) ∧ Below w.heap.size w w' := by
  refine calls_of_wp Try.func20 rfl ?_
  show Li.code.wp _ _ _ _
  generalize hR : (fun (e : Ending) (w' : World) => ∃ al gs cp, e = .returned al ∧ Ls w' w.heap.size lb.length (xs.length + 1) al gs cp (fun r => Tb la lb (i + r)) ∧ Below w.heap.size w w') = R
  have hP : Rg.PQ (bodyPost Try.prog Try.f20 R) := fun c a a' w hd h => ⟨hd.trans h.1, h.2⟩
  obtain ⟨a0, ha0⟩ : ∃ a0 : Act, a0 = { tmps := #[.slice A1 xs.length c1, .slice A2 lb.length c2, .slice (some ⟨g, 0, none⟩) wd wd] ++ Array.replicate (Try.f20.ntmps - (#[.slice A1 xs.length c1, .slice A2 lb.length c2, .slice (some ⟨g, 0, none⟩) wd wd] : Array Value).size) undef, defers := [] } := ⟨_, rfl⟩
  have hsz : a0.tmps.size = 71 := by rw [ha0]; simp [Try.ntmps20]
  have e0 : a0.eval (.tmp 0) = .slice A1 xs.length c1 := by rw [ha0]; exact Ev.entry rfl
  have e1 : a0.eval (.tmp 1) = .slice A2 lb.length c2 := by rw [ha0]; exact Ev.entry rfl
  have e2 : a0.eval (.tmp 2) = .slice (some ⟨g, 0, none⟩) wd wd := by rw [ha0]; exact Ev.entry rfl
  have hd0 : a0.defers = [] := by rw [ha0]
  rw [← ha0]
  clear ha0
  refine wp_seq (Rg.l0 hsz ?_)
  intro a1 k1
  refine wp_seq (Rg.l1 (g := g) (wd := wd) (A2 := A2) (c2 := c2) (lb := lb) (k1.1.trans hsz) ((k1.2.2 1 (by decide)).trans e1) ((k1.2.2 2 (by decide)).trans e2) hm (RR := fun v w' => (∃ gr cap, v = .slice (some ⟨gr, 0, none⟩) (lb.length + 1) cap ∧ w.heap.size ≤ gr ∧ Lr w' gr lb.length (Tb la lb i)) ∧ Below w.heap.size w w') (row_calls hg hm hw) ?_)
  rintro a2 v W1 k2 e7 ⟨⟨gr, cap, rfl, hgr, hLr⟩, B1⟩
  show Code.wp _ _ _ _ _
  have st2 : Ev.Stay [6, 14, 15, 16, 17, 18, 7] a0 a2 := k1.trans k2 (by decide) (by decide)
  refine wp_seq (Rg.l2 (g := gr) (m := lb.length) (cap := cap) (st2.1.trans hsz) e7 ?_)
  intro a3 k3 e8
  have B2 : Below W1.heap.size W1 (W1.alloc (.cells #[.slice (some ⟨gr, 0, none⟩) (lb.length + 1) cap] 31)) := below_alloc (Below.refl _ _) _
  have O2 : (W1.alloc (.cells #[.slice (some ⟨gr, 0, none⟩) (lb.length + 1) cap] 31)).ownsRow w.heap.size 31 1 (.slice (some ⟨W1.heap.size, 0, none⟩) 1 1) 1 (rowsC (fun _ => gr) (fun _ => cap) lb.length 1) := World.ownsRow_lit W1 #[.slice (some ⟨gr, 0, none⟩) (lb.length + 1) cap] 1 B1.size (by unfold maxLen; omega) rfl
  generalize (W1.alloc (.cells #[.slice (some ⟨gr, 0, none⟩) (lb.length + 1) cap] 31)) = W2 at B2 O2 ⊢
  have Bw2 : Below w.heap.size w W2 := B1.trans (B2.mono B1.size)
  refine wp_seq (wp_seq (Rg.l3 (A1 := A1) (c1 := c1) (xs := xs) (k3.1.trans (st2.1.trans hsz)) ((k3.2.2 0 (by decide)).trans ((st2.2.2 0 (by decide)).trans e0)) ?_))
  intro a4 k4 e21 e22 e23
  refine wp_block (wp_loop_rounds (xs.length + 1) ?_)
  refine Li.loopA (la := la) (lb := lb) (xs := xs) (i := i) (c1 := c1) (c2 := c2) (A1 := A1) (A2 := A2) hlb hxs ?hP2 HX Ha Hb xs.length 0 a4 W2 (.slice (some ⟨W1.heap.size, 0, none⟩) 1 1) (fun _ => gr) (fun _ => cap) (by omega) (k4.1.trans (k3.1.trans (st2.1.trans hsz))) ((k4.2.2 1 (by decide)).trans ((k3.2.2 1 (by decide)).trans ((st2.2.2 1 (by decide)).trans e1))) ((k4.2.2 7 (by decide)).trans ((k3.2.2 7 (by decide)).trans e7)) ((k4.2.2 8 (by decide)).trans e8) e21 e22 e23 Bw2 ⟨O2, fun r hr => ?hrow, fun r hr => hgr⟩ ?_
  case hP2 => exact fun c a a' w hd h => hP c a a' w hd h
  case hrow =>
    obtain rfl : r = 0 := by omega
    exact hLr.kept (Kept.of_below B2 (fun _ => False)) (fun h => h)
  intro a5 W' al gs cp k5 e8' hL' hB'
  show Code.wp _ _ _ _ _
  refine wp_seq (Rg.l17 (k5.1.trans (k4.1.trans (k3.1.trans (st2.1.trans hsz)))) e8' ?_)
  intro a6 k6 f6
  refine wp_ret ⟨k6.2.1.trans (k5.2.1.trans (k4.2.1.trans (k3.2.1.trans (st2.2.1.trans hd0)))), _, Li.res f6, ?_⟩
  rw [← hR]
  exact ⟨al, gs, cp, rfl, hL', hB'⟩
end Go.Proofs.Ytpdjdffimighkaa.Tile
