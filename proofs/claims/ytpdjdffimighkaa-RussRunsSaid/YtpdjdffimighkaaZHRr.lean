/- The walks of russ.Run's regions. -/
import Derived.Test.YtpdjdffimighkaaZHRn
namespace Go.Proofs.Ytpdjdffimighkaa.Tile
open Go.RowKit Go.Proofs.Ytpdjdffimighkaa.PRussRuns Go.Proofs.YtpdjdffimighkaaW.PrintWords Go.Proofs.YtpdjdffimighkaaW.PrintLast Go.Proofs.YtpdjdffimighkaaW.PrintMore
set_option linter.unusedVariables false
set_option linter.unusedSimpArgs false
theorem Ev.wantedIs {ops : Array Oper} {a : Act} {o o' : Oper} {i N : Nat} {c d : Bool} (hg : o.guard = some (i, c)) (ho : ops[i]? = some o') (hd : o'.dst = some N) (he : a.eval (.tmp N) = .bool d) : Region.wanted o (yielded ops a.tmps) = (d == c) := by
  have h : a.tmps[N]? = some (.bool d) := by
    have he' : a.tmps.getD N undef = .bool d := he
    rw [Array.getD_eq_getD_getElem?] at he'
    cases h : a.tmps[N]? with
    | none => rw [h] at he'; cases he'
    | some v => rw [h] at he'; rw [show v = .bool d from he']
  unfold Region.wanted yielded
  rw [hg]
  cases c <;> cases d <;> simp [ho, hd, h]
theorem Ev.pvG {ops : Array Oper} {a : Act} {o : Oper} {W W' : World} {Q : Exit → Act → World → Prop} {P : Program} {rest : List Oper} {N : Tmp} {v : Value} (hr : (execOp a.eval o).run P W = .ok (.value v) W') (hg : Region.wanted o (yielded ops a.tmps) = true) (hd : o.dst = some N) (h : wpList P ops Q rest (a.put (some N) v) W') : wpList P ops Q (o :: rest) a W :=
  wpList_step fun K hK => by rw [if_pos hg]; exact Ev.made hd hr (hK _ _ h)
theorem Ev.skip {ops : Array Oper} {a : Act} {o : Oper} {W : World} {Q : Exit → Act → World → Prop} {P : Program} {rest : List Oper} {N : Tmp} (hg : Region.wanted o (yielded ops a.tmps) = false) (hd : o.dst = some N) (h : wpList P ops Q rest (a.put (some N) undef) W) : wpList P ops Q (o :: rest) a W :=
  wpList_step fun K hK => by
    rw [if_neg (by rw [hg]; decide), hd]; exact hK _ _ h
theorem Ev.callK {a : Act} {o : Oper} {W : World} {K : Act → World → Prop} {Q : Exit → Act → World → Prop} {P : Program} {N : Tmp} {f : FuncId} {args : Array Value} (hr : (execOp a.eval o).run P W = .ok (.enter f args) W) (hd : o.dst = some N) (hc : Calls P f args W (fun e w' => ∃ v, e = .returned v ∧ K (a.put (some N) v) w')) : o.wp P a W K Q := by
  unfold Oper.wp
  rw [hr, Oper.upon_enter]
  refine hc.mono ?_
  rintro e w' ⟨v, rfl, h⟩
  show K (a.put o.dst v) w'
  rw [hd]; exact h
theorem Ev.load44 {W : World} {p : Addr} {v : Value} (hc : W.cell? p = some v) : (Instr.loadAt 44 (.pointer (some p))).run Try.prog W = .ok v W := by
  go_simp
theorem Rg.info49 : ∃ i : TypeInfo, Try.prog.info? 49 = some i ∧ i.zero = some (.agg #[.int .i64 0, .int .i64 0]) ∧ i.size = 2 ∧ i.bytes = 16 := by
  have h : (Try.prog.info? 49).map (fun i => (i.zero, i.size, i.bytes)) = some (some (.agg #[.int .i64 0, .int .i64 0]), 2, 16) := by kernel_rfl
  obtain ⟨i, hi, h0, h1, h2⟩ := info_parts h
  exact ⟨i, hi, h0, h1, h2⟩
theorem Rg.cells2 (w : World) (x y : Value) (t : TypeId) : ∀ j u, [x, y][j]? = some u → (w.alloc (.cells #[x, y] t)).cell? ((⟨w.heap.size, 0, none⟩ : Addr).add j) = some u := by
  intro j u hj
  have hb : (w.alloc (.cells #[x, y] t)).heap[w.heap.size]? = some (.cells #[x, y] t (0, 0)) := blk_new w _
  match j, hj with
  | 0, hj => simp at hj; subst hj; exact (blk_cell hb 0).trans rfl
  | 1, hj => simp at hj; subst hj; exact (blk_cell hb 1).trans rfl
  | j + 2, hj => simp at hj
set_option maxHeartbeats 2000000 in
theorem Rg.r0 {id : Nat} {Q : Exit → Act → World → Prop} {a : Act} {W : World} 
    (hsz : a.tmps.size = 128)  
    (hQ : ∀ a', Ev.Stay [6, 7, 8] a a' → Q .normal a' (W)) : (Code.region id (Ru.ops 10 0) false).wp Try.prog Q a W := by
  refine wp_region_list ?_
  show wpList _ _ _ (_ :: _ :: _ :: []) _ _
  have k0 : Ev.Stay [6, 7, 8] a a := Ev.Stay.refl [6, 7, 8] a
  refine Ev.pv (N := 6) (v := .slice none 0 0) (W' := W) ?_ rfl rfl ?_
  · have ec0 : a.eval (.const (.slice none 0 0)) = .slice none 0 0 := rfl
    unfold execOp
    generalize a.eval = ev at *
    go_simp
  obtain ⟨a1, qa1⟩ : ∃ z_, z_ = a.put (some 6) (.slice none 0 0) := ⟨_, rfl⟩
  have k1 : Ev.Stay [6, 7, 8] a a1 := by rw [qa1]; exact k0.put (by decide) _
  have e1_6 := Ev.sam qa1 (by rw [k0.1, hsz]; decide)
  rw [← qa1]
  clear qa1 
  refine Ev.pv (N := 7) (v := .int .i64 (0)) (W' := W) ?_ rfl rfl ?_
  · have ec0 : a1.eval (.const (.int .i64 (0))) = .int .i64 (0) := rfl
    unfold execOp
    generalize a1.eval = ev at *
    go_simp
  obtain ⟨a2, qa2⟩ : ∃ z_, z_ = a1.put (some 7) (.int .i64 (0)) := ⟨_, rfl⟩
  have k2 : Ev.Stay [6, 7, 8] a a2 := by rw [qa2]; exact k1.put (by decide) _
  have e2_6 := Ev.oth qa2 (by decide) e1_6
  have e2_7 := Ev.sam qa2 (by rw [k1.1, hsz]; decide)
  rw [← qa2]
  clear qa2 e1_6
  refine Ev.pv (N := 8) (v := .int .i64 (0)) (W' := W) ?_ rfl rfl ?_
  · have ec0 : a2.eval (.const (.int .i64 (0))) = .int .i64 (0) := rfl
    unfold execOp
    generalize a2.eval = ev at *
    go_simp
  obtain ⟨a3, qa3⟩ : ∃ z_, z_ = a2.put (some 8) (.int .i64 (0)) := ⟨_, rfl⟩
  have k3 : Ev.Stay [6, 7, 8] a a3 := by rw [qa3]; exact k2.put (by decide) _
  have e3_6 := Ev.oth qa3 (by decide) e2_6
  have e3_7 := Ev.oth qa3 (by decide) e2_7
  have e3_8 := Ev.sam qa3 (by rw [k2.1, hsz]; decide)
  rw [← qa3]
  clear qa3 e2_6 e2_7
  exact hQ _ k3 
set_option maxHeartbeats 2000000 in
theorem Rg.r1 {id : Nat} {Q : Exit → Act → World → Prop} {a : Act} {W : World} {b : Nat}
    (hsz : a.tmps.size = 128)  (h0 : a.eval (.tmp 0) = .pointer (some ⟨b, 0, none⟩))
    (hQ : ∀ a', Ev.Stay [18, 19] a a' → a'.eval (.tmp 19) = .bool false → Q .normal a' (W)) : (Code.region id (Ru.ops 10 1) false).wp Try.prog Q a W := by
  refine wp_region_list ?_
  show wpList _ _ _ (_ :: _ :: []) _ _
  have k0 : Ev.Stay [18, 19] a a := Ev.Stay.refl [18, 19] a
  refine Ev.pv (N := 18) (v := .pointer (some ⟨b, 0, none⟩)) (W' := W) ?_ rfl rfl ?_
  · unfold execOp
    generalize a.eval = ev at *
    go_simp
  obtain ⟨a1, qa1⟩ : ∃ z_, z_ = a.put (some 18) (.pointer (some ⟨b, 0, none⟩)) := ⟨_, rfl⟩
  have k1 : Ev.Stay [18, 19] a a1 := by rw [qa1]; exact k0.put (by decide) _
  have e1_0 := Ev.oth qa1 (by decide) h0
  have e1_18 := Ev.sam qa1 (by rw [k0.1, hsz]; decide)
  rw [← qa1]
  clear qa1 
  refine Ev.pv (N := 19) (v := .bool false) (W' := W) ?_ rfl rfl ?_
  · have ec0 : a1.eval (.const (.pointer none)) = .pointer none := rfl
    unfold execOp
    generalize a1.eval = ev at *
    go_simp
  obtain ⟨a2, qa2⟩ : ∃ z_, z_ = a1.put (some 19) (.bool false) := ⟨_, rfl⟩
  have k2 : Ev.Stay [18, 19] a a2 := by rw [qa2]; exact k1.put (by decide) _
  have e2_0 := Ev.oth qa2 (by decide) e1_0
  have e2_18 := Ev.oth qa2 (by decide) e1_18
  have e2_19 := Ev.sam qa2 (by rw [k1.1, hsz]; decide)
  rw [← qa2]
  clear qa2 e1_0 e1_18
  exact hQ _ k2 e2_19
set_option maxHeartbeats 2000000 in
theorem Rg.r3 {id : Nat} {Q : Exit → Act → World → Prop} {a : Act} {W : World} {b t : Nat}
    (hsz : a.tmps.size = 128)  (h0 : a.eval (.tmp 0) = .pointer (some ⟨b, 0, none⟩)) (hc : W.cell? ⟨b, 0, none⟩ = some (.int .i64 (t : Int)))
    (hQ : ∀ a', Ev.Stay [20, 21, 9] a a' → a'.eval (.tmp 9) = .int .i64 (t : Int) → Q .normal a' (W)) : (Code.region id (Ru.ops 10 3) false).wp Try.prog Q a W := by
  refine wp_region_list ?_
  show wpList _ _ _ (_ :: _ :: _ :: []) _ _
  have k0 : Ev.Stay [20, 21, 9] a a := Ev.Stay.refl [20, 21, 9] a
  refine Ev.pv (N := 20) (v := .pointer (some ⟨b, 0, none⟩)) (W' := W) ?_ rfl rfl ?_
  · unfold execOp
    generalize a.eval = ev at *
    go_simp
  obtain ⟨a1, qa1⟩ : ∃ z_, z_ = a.put (some 20) (.pointer (some ⟨b, 0, none⟩)) := ⟨_, rfl⟩
  have k1 : Ev.Stay [20, 21, 9] a a1 := by rw [qa1]; exact k0.put (by decide) _
  have e1_0 := Ev.oth qa1 (by decide) h0
  have e1_20 := Ev.sam qa1 (by rw [k0.1, hsz]; decide)
  rw [← qa1]
  clear qa1 
  refine Ev.pc (N := 21) (f := 15) (args := #[.pointer (some ⟨b, 0, none⟩)]) ?_ rfl rfl ((sideOf b t W hc).mono ?_)
  · have ef : a1.eval (.func 15) = .func (.func 15) #[] #[] := rfl
    unfold execOp
    generalize a1.eval = ev at *
    go_simp
  rintro e_ w_ ⟨rfl, rfl⟩
  refine ⟨_, rfl, ?_⟩
  obtain ⟨a2, qa2⟩ : ∃ z_, z_ = a1.put (some 21) (.int .i64 (t : Int)) := ⟨_, rfl⟩
  have k2 : Ev.Stay [20, 21, 9] a a2 := by rw [qa2]; exact k1.put (by decide) _
  have e2_0 := Ev.oth qa2 (by decide) e1_0
  have e2_20 := Ev.oth qa2 (by decide) e1_20
  have e2_21 := Ev.sam qa2 (by rw [k1.1, hsz]; decide)
  rw [← qa2]
  clear qa2 e1_0 e1_20
  refine Ev.pv (N := 9) (v := .int .i64 (t : Int)) (W' := W) ?_ rfl rfl ?_
  · unfold execOp
    generalize a2.eval = ev at *
    go_simp
  obtain ⟨a3, qa3⟩ : ∃ z_, z_ = a2.put (some 9) (.int .i64 (t : Int)) := ⟨_, rfl⟩
  have k3 : Ev.Stay [20, 21, 9] a a3 := by rw [qa3]; exact k2.put (by decide) _
  have e3_0 := Ev.oth qa3 (by decide) e2_0
  have e3_20 := Ev.oth qa3 (by decide) e2_20
  have e3_21 := Ev.oth qa3 (by decide) e2_21
  have e3_9 := Ev.sam qa3 (by rw [k2.1, hsz]; decide)
  rw [← qa3]
  clear qa3 e2_0 e2_20 e2_21
  exact hQ _ k3 e3_9
set_option maxHeartbeats 2000000 in
theorem Rg.r4 {id : Nat} {Q : Exit → Act → World → Prop} {a : Act} {W : World} {b : Nat} {A1 A2 : Option Addr} {c1 c2 : Nat} {la lb : List Int} {RR : Value → World → Prop}
    (hsz : a.tmps.size = 128)  (h0 : a.eval (.tmp 0) = .pointer (some ⟨b, 0, none⟩)) (h1 : a.eval (.tmp 1) = .slice A1 la.length c1) (h2 : a.eval (.tmp 2) = .slice A2 lb.length c2) (g1 : Calls Try.prog 17 #[.pointer (some ⟨b, 0, none⟩), .slice A1 la.length c1, .slice A2 lb.length c2] W fun e w' => ∃ v, e = .returned v ∧ RR v w')
    (hQ : ∀ a' v W', Ev.Stay [22, 23, 24, 25, 10] a a' → a'.eval (.tmp 10) = v → RR v W' → Q .normal a' W') : (Code.region id (Ru.ops 10 4) false).wp Try.prog Q a W := by
  refine wp_region_list ?_
  show wpList _ _ _ (_ :: _ :: _ :: _ :: _ :: []) _ _
  have k0 : Ev.Stay [22, 23, 24, 25, 10] a a := Ev.Stay.refl [22, 23, 24, 25, 10] a
  refine Ev.pv (N := 22) (v := .pointer (some ⟨b, 0, none⟩)) (W' := W) ?_ rfl rfl ?_
  · unfold execOp
    generalize a.eval = ev at *
    go_simp
  obtain ⟨a1, qa1⟩ : ∃ z_, z_ = a.put (some 22) (.pointer (some ⟨b, 0, none⟩)) := ⟨_, rfl⟩
  have k1 : Ev.Stay [22, 23, 24, 25, 10] a a1 := by rw [qa1]; exact k0.put (by decide) _
  have e1_0 := Ev.oth qa1 (by decide) h0
  have e1_1 := Ev.oth qa1 (by decide) h1
  have e1_2 := Ev.oth qa1 (by decide) h2
  have e1_22 := Ev.sam qa1 (by rw [k0.1, hsz]; decide)
  rw [← qa1]
  clear qa1 
  refine Ev.pv (N := 23) (v := .slice A1 la.length c1) (W' := W) ?_ rfl rfl ?_
  · unfold execOp
    generalize a1.eval = ev at *
    go_simp
  obtain ⟨a2, qa2⟩ : ∃ z_, z_ = a1.put (some 23) (.slice A1 la.length c1) := ⟨_, rfl⟩
  have k2 : Ev.Stay [22, 23, 24, 25, 10] a a2 := by rw [qa2]; exact k1.put (by decide) _
  have e2_0 := Ev.oth qa2 (by decide) e1_0
  have e2_1 := Ev.oth qa2 (by decide) e1_1
  have e2_2 := Ev.oth qa2 (by decide) e1_2
  have e2_22 := Ev.oth qa2 (by decide) e1_22
  have e2_23 := Ev.sam qa2 (by rw [k1.1, hsz]; decide)
  rw [← qa2]
  clear qa2 e1_0 e1_1 e1_2 e1_22
  refine Ev.pv (N := 24) (v := .slice A2 lb.length c2) (W' := W) ?_ rfl rfl ?_
  · unfold execOp
    generalize a2.eval = ev at *
    go_simp
  obtain ⟨a3, qa3⟩ : ∃ z_, z_ = a2.put (some 24) (.slice A2 lb.length c2) := ⟨_, rfl⟩
  have k3 : Ev.Stay [22, 23, 24, 25, 10] a a3 := by rw [qa3]; exact k2.put (by decide) _
  have e3_0 := Ev.oth qa3 (by decide) e2_0
  have e3_1 := Ev.oth qa3 (by decide) e2_1
  have e3_2 := Ev.oth qa3 (by decide) e2_2
  have e3_22 := Ev.oth qa3 (by decide) e2_22
  have e3_23 := Ev.oth qa3 (by decide) e2_23
  have e3_24 := Ev.sam qa3 (by rw [k2.1, hsz]; decide)
  rw [← qa3]
  clear qa3 e2_0 e2_1 e2_2 e2_22 e2_23
  refine Ev.pc (N := 25) (f := 17) (args := #[.pointer (some ⟨b, 0, none⟩), .slice A1 la.length c1, .slice A2 lb.length c2]) ?_ rfl rfl (g1.mono ?_)
  · have ef : a3.eval (.func 17) = .func (.func 17) #[] #[] := rfl
    unfold execOp
    generalize a3.eval = ev at *
    go_simp
  rintro e_ w_ ⟨v, rfl, hR⟩
  refine ⟨_, rfl, ?_⟩
  obtain ⟨a4, qa4⟩ : ∃ z_, z_ = a3.put (some 25) (v) := ⟨_, rfl⟩
  have k4 : Ev.Stay [22, 23, 24, 25, 10] a a4 := by rw [qa4]; exact k3.put (by decide) _
  have e4_0 := Ev.oth qa4 (by decide) e3_0
  have e4_1 := Ev.oth qa4 (by decide) e3_1
  have e4_2 := Ev.oth qa4 (by decide) e3_2
  have e4_22 := Ev.oth qa4 (by decide) e3_22
  have e4_23 := Ev.oth qa4 (by decide) e3_23
  have e4_24 := Ev.oth qa4 (by decide) e3_24
  have e4_25 := Ev.sam qa4 (by rw [k3.1, hsz]; decide)
  rw [← qa4]
  clear qa4 e3_0 e3_1 e3_2 e3_22 e3_23 e3_24
  clear g1
  refine Ev.pv (N := 10) (v := v) (W' := w_) ?_ rfl rfl ?_
  · unfold execOp
    generalize a4.eval = ev at *
    (simp [go_sem, *])
  obtain ⟨a5, qa5⟩ : ∃ z_, z_ = a4.put (some 10) (v) := ⟨_, rfl⟩
  have k5 : Ev.Stay [22, 23, 24, 25, 10] a a5 := by rw [qa5]; exact k4.put (by decide) _
  have e5_0 := Ev.oth qa5 (by decide) e4_0
  have e5_1 := Ev.oth qa5 (by decide) e4_1
  have e5_2 := Ev.oth qa5 (by decide) e4_2
  have e5_22 := Ev.oth qa5 (by decide) e4_22
  have e5_23 := Ev.oth qa5 (by decide) e4_23
  have e5_24 := Ev.oth qa5 (by decide) e4_24
  have e5_25 := Ev.oth qa5 (by decide) e4_25
  have e5_10 := Ev.sam qa5 (by rw [k4.1, hsz]; decide)
  rw [← qa5]
  clear qa5 e4_0 e4_1 e4_2 e4_22 e4_23 e4_24 e4_25
  exact hQ _ _ _ k5 e5_10 hR
set_option maxHeartbeats 2000000 in
theorem Rg.r5 {id : Nat} {Q : Exit → Act → World → Prop} {a : Act} {W : World} 
    (hsz : a.tmps.size = 128)  
    (hQ : ∀ a', Ev.Stay [11] a a' → a'.eval (.tmp 11) = .slice none 0 0 → Q .normal a' (W)) : (Code.region id (Ru.ops 10 5) false).wp Try.prog Q a W := by
  refine wp_region_list ?_
  show wpList _ _ _ (_ :: []) _ _
  have k0 : Ev.Stay [11] a a := Ev.Stay.refl [11] a
  refine Ev.pv (N := 11) (v := .slice none 0 0) (W' := W) ?_ rfl rfl ?_
  · have ec0 : a.eval (.const (.slice none 0 0)) = .slice none 0 0 := rfl
    unfold execOp
    generalize a.eval = ev at *
    go_simp
  obtain ⟨a1, qa1⟩ : ∃ z_, z_ = a.put (some 11) (.slice none 0 0) := ⟨_, rfl⟩
  have k1 : Ev.Stay [11] a a1 := by rw [qa1]; exact k0.put (by decide) _
  have e1_11 := Ev.sam qa1 (by rw [k0.1, hsz]; decide)
  rw [← qa1]
  clear qa1 
  exact hQ _ k1 e1_11
set_option maxHeartbeats 2000000 in
theorem Rg.r6 {id : Nat} {Q : Exit → Act → World → Prop} {a : Act} {W : World} {A2 : Option Addr} {c2 : Nat} {lb : List Int}
    (hsz : a.tmps.size = 128)  (h2 : a.eval (.tmp 2) = .slice A2 lb.length c2)
    (hQ : ∀ a', Ev.Stay [26, 27, 12] a a' → a'.eval (.tmp 12) = .int .i64 (lb.length : Int) → Q .normal a' (W)) : (Code.region id (Ru.ops 10 6) false).wp Try.prog Q a W := by
  refine wp_region_list ?_
  show wpList _ _ _ (_ :: _ :: _ :: []) _ _
  have k0 : Ev.Stay [26, 27, 12] a a := Ev.Stay.refl [26, 27, 12] a
  refine Ev.pv (N := 26) (v := .slice A2 lb.length c2) (W' := W) ?_ rfl rfl ?_
  · unfold execOp
    generalize a.eval = ev at *
    go_simp
  obtain ⟨a1, qa1⟩ : ∃ z_, z_ = a.put (some 26) (.slice A2 lb.length c2) := ⟨_, rfl⟩
  have k1 : Ev.Stay [26, 27, 12] a a1 := by rw [qa1]; exact k0.put (by decide) _
  have e1_2 := Ev.oth qa1 (by decide) h2
  have e1_26 := Ev.sam qa1 (by rw [k0.1, hsz]; decide)
  rw [← qa1]
  clear qa1 
  refine Ev.pv (N := 27) (v := .int .i64 (lb.length : Int)) (W' := W) ?_ rfl rfl ?_
  · unfold execOp
    generalize a1.eval = ev at *
    go_simp
  obtain ⟨a2, qa2⟩ : ∃ z_, z_ = a1.put (some 27) (.int .i64 (lb.length : Int)) := ⟨_, rfl⟩
  have k2 : Ev.Stay [26, 27, 12] a a2 := by rw [qa2]; exact k1.put (by decide) _
  have e2_2 := Ev.oth qa2 (by decide) e1_2
  have e2_26 := Ev.oth qa2 (by decide) e1_26
  have e2_27 := Ev.sam qa2 (by rw [k1.1, hsz]; decide)
  rw [← qa2]
  clear qa2 e1_2 e1_26
  refine Ev.pv (N := 12) (v := .int .i64 (lb.length : Int)) (W' := W) ?_ rfl rfl ?_
  · unfold execOp
    generalize a2.eval = ev at *
    go_simp
  obtain ⟨a3, qa3⟩ : ∃ z_, z_ = a2.put (some 12) (.int .i64 (lb.length : Int)) := ⟨_, rfl⟩
  have k3 : Ev.Stay [26, 27, 12] a a3 := by rw [qa3]; exact k2.put (by decide) _
  have e3_2 := Ev.oth qa3 (by decide) e2_2
  have e3_26 := Ev.oth qa3 (by decide) e2_26
  have e3_27 := Ev.oth qa3 (by decide) e2_27
  have e3_12 := Ev.sam qa3 (by rw [k2.1, hsz]; decide)
  rw [← qa3]
  clear qa3 e2_2 e2_26 e2_27
  exact hQ _ k3 e3_12
set_option maxHeartbeats 2000000 in
theorem Rg.r7 {id : Nat} {Q : Exit → Act → World → Prop} {a : Act} {W : World} {t : Nat} {A1 : Option Addr} {c1 : Nat} {la : List Int}
    (hsz : a.tmps.size = 128)  (h1 : a.eval (.tmp 1) = .slice A1 la.length c1) (h9 : a.eval (.tmp 9) = .int .i64 (t : Int)) (ht : 1 ≤ t ∧ t ≤ 3) (hla : la.length ≤ 1000) (hu : upN la.length t ≤ 2000)
    (hQ : ∀ a' nd, Ev.Stay [28, 29, 30, 31, 32, 13] a a' → a'.eval (.tmp 13) = .int .i64 (((upN la.length t : Nat) : Int) - 1) → Q .normal a' (W.drewN nd)) : (Code.region id (Ru.ops 10 7) false).wp Try.prog Q a W := by
  refine wp_region_list ?_
  show wpList _ _ _ (_ :: _ :: _ :: _ :: _ :: _ :: []) _ _
  have k0 : Ev.Stay [28, 29, 30, 31, 32, 13] a a := Ev.Stay.refl [28, 29, 30, 31, 32, 13] a
  refine Ev.pv (N := 28) (v := .slice A1 la.length c1) (W' := W) ?_ rfl rfl ?_
  · unfold execOp
    generalize a.eval = ev at *
    go_simp
  obtain ⟨a1, qa1⟩ : ∃ z_, z_ = a.put (some 28) (.slice A1 la.length c1) := ⟨_, rfl⟩
  have k1 : Ev.Stay [28, 29, 30, 31, 32, 13] a a1 := by rw [qa1]; exact k0.put (by decide) _
  have e1_1 := Ev.oth qa1 (by decide) h1
  have e1_9 := Ev.oth qa1 (by decide) h9
  have e1_28 := Ev.sam qa1 (by rw [k0.1, hsz]; decide)
  rw [← qa1]
  clear qa1 
  refine Ev.pv (N := 29) (v := .int .i64 (la.length : Int)) (W' := W) ?_ rfl rfl ?_
  · unfold execOp
    generalize a1.eval = ev at *
    go_simp
  obtain ⟨a2, qa2⟩ : ∃ z_, z_ = a1.put (some 29) (.int .i64 (la.length : Int)) := ⟨_, rfl⟩
  have k2 : Ev.Stay [28, 29, 30, 31, 32, 13] a a2 := by rw [qa2]; exact k1.put (by decide) _
  have e2_1 := Ev.oth qa2 (by decide) e1_1
  have e2_9 := Ev.oth qa2 (by decide) e1_9
  have e2_28 := Ev.oth qa2 (by decide) e1_28
  have e2_29 := Ev.sam qa2 (by rw [k1.1, hsz]; decide)
  rw [← qa2]
  clear qa2 e1_1 e1_9 e1_28
  clear e2_28
  refine Ev.pv (N := 30) (v := .int .i64 (t : Int)) (W' := W) ?_ rfl rfl ?_
  · unfold execOp
    generalize a2.eval = ev at *
    go_simp
  obtain ⟨a3, qa3⟩ : ∃ z_, z_ = a2.put (some 30) (.int .i64 (t : Int)) := ⟨_, rfl⟩
  have k3 : Ev.Stay [28, 29, 30, 31, 32, 13] a a3 := by rw [qa3]; exact k2.put (by decide) _
  have e3_1 := Ev.oth qa3 (by decide) e2_1
  have e3_9 := Ev.oth qa3 (by decide) e2_9
  have e3_29 := Ev.oth qa3 (by decide) e2_29
  have e3_30 := Ev.sam qa3 (by rw [k2.1, hsz]; decide)
  rw [← qa3]
  clear qa3 e2_1 e2_9 e2_29
  refine Ev.pc (N := 31) (f := 19) (args := #[.int .i64 (la.length : Int), .int .i64 (t : Int)]) ?_ rfl rfl ((up_calls W hla ht).mono ?_)
  · have ef : a3.eval (.func 19) = .func (.func 19) #[] #[] := rfl
    unfold execOp
    generalize a3.eval = ev at *
    go_simp
  rintro e_ w_ ⟨rfl, nd, rfl⟩
  refine ⟨_, rfl, ?_⟩
  obtain ⟨a4, qa4⟩ : ∃ z_, z_ = a3.put (some 31) (.int .i64 ((upN la.length t : Nat) : Int)) := ⟨_, rfl⟩
  have k4 : Ev.Stay [28, 29, 30, 31, 32, 13] a a4 := by rw [qa4]; exact k3.put (by decide) _
  have e4_1 := Ev.oth qa4 (by decide) e3_1
  have e4_9 := Ev.oth qa4 (by decide) e3_9
  have e4_29 := Ev.oth qa4 (by decide) e3_29
  have e4_30 := Ev.oth qa4 (by decide) e3_30
  have e4_31 := Ev.sam qa4 (by rw [k3.1, hsz]; decide)
  rw [← qa4]
  clear qa4 e3_1 e3_9 e3_29 e3_30
  refine Ev.pv (N := 32) (v := .int .i64 (((upN la.length t : Nat) : Int) - 1)) (W' := W.drewN nd) ?_ rfl rfl ?_
  · have ec0 : a4.eval (.const (.int .i64 (1))) = .int .i64 (1) := rfl
    have u_ := hu
    unfold execOp
    generalize a4.eval = ev at *
    (go_simp; exact wr (by omega) (by omega))
  obtain ⟨a5, qa5⟩ : ∃ z_, z_ = a4.put (some 32) (.int .i64 (((upN la.length t : Nat) : Int) - 1)) := ⟨_, rfl⟩
  have k5 : Ev.Stay [28, 29, 30, 31, 32, 13] a a5 := by rw [qa5]; exact k4.put (by decide) _
  have e5_1 := Ev.oth qa5 (by decide) e4_1
  have e5_9 := Ev.oth qa5 (by decide) e4_9
  have e5_29 := Ev.oth qa5 (by decide) e4_29
  have e5_30 := Ev.oth qa5 (by decide) e4_30
  have e5_31 := Ev.oth qa5 (by decide) e4_31
  have e5_32 := Ev.sam qa5 (by rw [k4.1, hsz]; decide)
  rw [← qa5]
  clear qa5 e4_1 e4_9 e4_29 e4_30 e4_31
  clear e5_29
  clear e5_30
  clear e5_31
  refine Ev.pv (N := 13) (v := .int .i64 (((upN la.length t : Nat) : Int) - 1)) (W' := W.drewN nd) ?_ rfl rfl ?_
  · unfold execOp
    generalize a5.eval = ev at *
    go_simp
  obtain ⟨a6, qa6⟩ : ∃ z_, z_ = a5.put (some 13) (.int .i64 (((upN la.length t : Nat) : Int) - 1)) := ⟨_, rfl⟩
  have k6 : Ev.Stay [28, 29, 30, 31, 32, 13] a a6 := by rw [qa6]; exact k5.put (by decide) _
  have e6_1 := Ev.oth qa6 (by decide) e5_1
  have e6_9 := Ev.oth qa6 (by decide) e5_9
  have e6_32 := Ev.oth qa6 (by decide) e5_32
  have e6_13 := Ev.sam qa6 (by rw [k5.1, hsz]; decide)
  rw [← qa6]
  clear qa6 e5_1 e5_9 e5_32
  exact hQ _ _ k6 e6_13
set_option maxHeartbeats 2000000 in
theorem Rg.r8 {id : Nat} {Q : Exit → Act → World → Prop} {a : Act} {W : World} {kk : Nat}
    (hsz : a.tmps.size = 128)  (h13 : a.eval (.tmp 13) = .int .i64 ((kk : Int) - 1))
    (hQ : ∀ a', Ev.Stay [33, 34] a a' → a'.eval (.tmp 34) = .bool (decide (0 < kk)) → Q .normal a' (W)) : (Code.region id (Ru.ops 10 8) false).wp Try.prog Q a W := by
  refine wp_region_list ?_
  show wpList _ _ _ (_ :: _ :: []) _ _
  have k0 : Ev.Stay [33, 34] a a := Ev.Stay.refl [33, 34] a
  refine Ev.pv (N := 33) (v := .int .i64 ((kk : Int) - 1)) (W' := W) ?_ rfl rfl ?_
  · unfold execOp
    generalize a.eval = ev at *
    go_simp
  obtain ⟨a1, qa1⟩ : ∃ z_, z_ = a.put (some 33) (.int .i64 ((kk : Int) - 1)) := ⟨_, rfl⟩
  have k1 : Ev.Stay [33, 34] a a1 := by rw [qa1]; exact k0.put (by decide) _
  have e1_13 := Ev.oth qa1 (by decide) h13
  have e1_33 := Ev.sam qa1 (by rw [k0.1, hsz]; decide)
  rw [← qa1]
  clear qa1 
  refine Ev.pv (N := 34) (v := .bool (decide (0 < kk))) (W' := W) ?_ rfl rfl ?_
  · have ec0 : a1.eval (.const (.int .i64 (0))) = .int .i64 (0) := rfl
    unfold execOp
    generalize a1.eval = ev at *
    (go_simp; try omega)
  obtain ⟨a2, qa2⟩ : ∃ z_, z_ = a1.put (some 34) (.bool (decide (0 < kk))) := ⟨_, rfl⟩
  have k2 : Ev.Stay [33, 34] a a2 := by rw [qa2]; exact k1.put (by decide) _
  have e2_13 := Ev.oth qa2 (by decide) e1_13
  have e2_33 := Ev.oth qa2 (by decide) e1_33
  have e2_34 := Ev.sam qa2 (by rw [k1.1, hsz]; decide)
  rw [← qa2]
  clear qa2 e1_13 e1_33
  exact hQ _ k2 e2_34
set_option maxHeartbeats 2000000 in
theorem Rg.r9 {id : Nat} {Q : Exit → Act → World → Prop} {a : Act} {W : World} {k : Nat}
    (hsz : a.tmps.size = 128)  (h13 : a.eval (.tmp 13) = .int .i64 (k : Int)) (hk : k ≤ 1000)
    (hQ : ∀ a', Ev.Stay [35, 36, 13] a a' → a'.eval (.tmp 13) = .int .i64 ((k : Int) - 1) → Q .normal a' (W)) : (Code.region id (Ru.ops 10 9) false).wp Try.prog Q a W := by
  refine wp_region_list ?_
  show wpList _ _ _ (_ :: _ :: _ :: []) _ _
  have k0 : Ev.Stay [35, 36, 13] a a := Ev.Stay.refl [35, 36, 13] a
  refine Ev.pv (N := 35) (v := .int .i64 (k : Int)) (W' := W) ?_ rfl rfl ?_
  · unfold execOp
    generalize a.eval = ev at *
    go_simp
  obtain ⟨a1, qa1⟩ : ∃ z_, z_ = a.put (some 35) (.int .i64 (k : Int)) := ⟨_, rfl⟩
  have k1 : Ev.Stay [35, 36, 13] a a1 := by rw [qa1]; exact k0.put (by decide) _
  have e1_13 := Ev.oth qa1 (by decide) h13
  have e1_35 := Ev.sam qa1 (by rw [k0.1, hsz]; decide)
  rw [← qa1]
  clear qa1 
  refine Ev.pv (N := 36) (v := .int .i64 ((k : Int) - 1)) (W' := W) ?_ rfl rfl ?_
  · have ec0 : a1.eval (.const (.int .i64 (1))) = .int .i64 (1) := rfl
    unfold execOp
    generalize a1.eval = ev at *
    (go_simp; exact wr (by omega) (by omega))
  obtain ⟨a2, qa2⟩ : ∃ z_, z_ = a1.put (some 36) (.int .i64 ((k : Int) - 1)) := ⟨_, rfl⟩
  have k2 : Ev.Stay [35, 36, 13] a a2 := by rw [qa2]; exact k1.put (by decide) _
  have e2_13 := Ev.oth qa2 (by decide) e1_13
  have e2_35 := Ev.oth qa2 (by decide) e1_35
  have e2_36 := Ev.sam qa2 (by rw [k1.1, hsz]; decide)
  rw [← qa2]
  clear qa2 e1_13 e1_35
  refine Ev.pv (N := 13) (v := .int .i64 ((k : Int) - 1)) (W' := W) ?_ rfl rfl ?_
  · unfold execOp
    generalize a2.eval = ev at *
    go_simp
  obtain ⟨a3, qa3⟩ : ∃ z_, z_ = a2.put (some 13) (.int .i64 ((k : Int) - 1)) := ⟨_, rfl⟩
  have k3 : Ev.Stay [35, 36, 13] a a3 := by rw [qa3]; exact k2.put (by decide) _
  have e3_35 := Ev.oth qa3 (by decide) e2_35
  have e3_36 := Ev.oth qa3 (by decide) e2_36
  have e3_13 := Ev.sam qa3 (by rw [k2.1, hsz]; decide)
  rw [← qa3]
  clear qa3 e2_13 e2_35 e2_36
  exact hQ _ k3 e3_13
set_option maxHeartbeats 2000000 in
theorem Rg.r10 {id : Nat} {Q : Exit → Act → World → Prop} {a : Act} {W : World} {k t u : Nat} {A1 : Option Addr} {c1 : Nat} {la : List Int}
    (hsz : a.tmps.size = 128)  (h13 : a.eval (.tmp 13) = .int .i64 (k : Int)) (h9 : a.eval (.tmp 9) = .int .i64 (t : Int)) (h1 : a.eval (.tmp 1) = .slice A1 la.length c1) (hkt : k * t ≤ 1000) (ht : t ≤ 3) (hu : u = min (k * t + t) la.length) (hu2 : min ((k : Int) * (t : Int) + (t : Int)) (la.length : Int) = (u : Int))
    (hQ : ∀ a', Ev.Stay [37, 38, 39, 40, 41, 42, 43, 44, 45, 46, 47, 14, 15] a a' → a'.eval (.tmp 14) = .int .i64 ((k * t : Nat) : Int) → a'.eval (.tmp 15) = .int .i64 (u : Int) → Q .normal a' (W)) : (Code.region id (Ru.ops 10 10) false).wp Try.prog Q a W := by
  refine wp_region_list ?_
  show wpList _ _ _ (_ :: _ :: _ :: _ :: _ :: _ :: _ :: _ :: _ :: _ :: _ :: _ :: _ :: []) _ _
  have k0 : Ev.Stay [37, 38, 39, 40, 41, 42, 43, 44, 45, 46, 47, 14, 15] a a := Ev.Stay.refl [37, 38, 39, 40, 41, 42, 43, 44, 45, 46, 47, 14, 15] a
  refine Ev.pv (N := 37) (v := .int .i64 (k : Int)) (W' := W) ?_ rfl rfl ?_
  · unfold execOp
    generalize a.eval = ev at *
    go_simp
  obtain ⟨a1, qa1⟩ : ∃ z_, z_ = a.put (some 37) (.int .i64 (k : Int)) := ⟨_, rfl⟩
  have k1 : Ev.Stay [37, 38, 39, 40, 41, 42, 43, 44, 45, 46, 47, 14, 15] a a1 := by rw [qa1]; exact k0.put (by decide) _
  have e1_13 := Ev.oth qa1 (by decide) h13
  have e1_9 := Ev.oth qa1 (by decide) h9
  have e1_1 := Ev.oth qa1 (by decide) h1
  have e1_37 := Ev.sam qa1 (by rw [k0.1, hsz]; decide)
  rw [← qa1]
  clear qa1 
  refine Ev.pv (N := 38) (v := .int .i64 (t : Int)) (W' := W) ?_ rfl rfl ?_
  · unfold execOp
    generalize a1.eval = ev at *
    go_simp
  obtain ⟨a2, qa2⟩ : ∃ z_, z_ = a1.put (some 38) (.int .i64 (t : Int)) := ⟨_, rfl⟩
  have k2 : Ev.Stay [37, 38, 39, 40, 41, 42, 43, 44, 45, 46, 47, 14, 15] a a2 := by rw [qa2]; exact k1.put (by decide) _
  have e2_13 := Ev.oth qa2 (by decide) e1_13
  have e2_9 := Ev.oth qa2 (by decide) e1_9
  have e2_1 := Ev.oth qa2 (by decide) e1_1
  have e2_37 := Ev.oth qa2 (by decide) e1_37
  have e2_38 := Ev.sam qa2 (by rw [k1.1, hsz]; decide)
  rw [← qa2]
  clear qa2 e1_13 e1_9 e1_1 e1_37
  refine Ev.pv (N := 39) (v := .int .i64 ((k * t : Nat) : Int)) (W' := W) ?_ rfl rfl ?_
  · have e_ : ((k * t : Nat) : Int) = (k : Int) * (t : Int) := by simp
    have kt_ := hkt
    unfold execOp
    generalize a2.eval = ev at *
    (go_simp; rw [← e_]; exact wr (by omega) (by omega))
  obtain ⟨a3, qa3⟩ : ∃ z_, z_ = a2.put (some 39) (.int .i64 ((k * t : Nat) : Int)) := ⟨_, rfl⟩
  have k3 : Ev.Stay [37, 38, 39, 40, 41, 42, 43, 44, 45, 46, 47, 14, 15] a a3 := by rw [qa3]; exact k2.put (by decide) _
  have e3_13 := Ev.oth qa3 (by decide) e2_13
  have e3_9 := Ev.oth qa3 (by decide) e2_9
  have e3_1 := Ev.oth qa3 (by decide) e2_1
  have e3_37 := Ev.oth qa3 (by decide) e2_37
  have e3_38 := Ev.oth qa3 (by decide) e2_38
  have e3_39 := Ev.sam qa3 (by rw [k2.1, hsz]; decide)
  rw [← qa3]
  clear qa3 e2_13 e2_9 e2_1 e2_37 e2_38
  clear e3_37
  clear e3_38
  refine Ev.pv (N := 40) (v := .int .i64 (k : Int)) (W' := W) ?_ rfl rfl ?_
  · unfold execOp
    generalize a3.eval = ev at *
    go_simp
  obtain ⟨a4, qa4⟩ : ∃ z_, z_ = a3.put (some 40) (.int .i64 (k : Int)) := ⟨_, rfl⟩
  have k4 : Ev.Stay [37, 38, 39, 40, 41, 42, 43, 44, 45, 46, 47, 14, 15] a a4 := by rw [qa4]; exact k3.put (by decide) _
  have e4_13 := Ev.oth qa4 (by decide) e3_13
  have e4_9 := Ev.oth qa4 (by decide) e3_9
  have e4_1 := Ev.oth qa4 (by decide) e3_1
  have e4_39 := Ev.oth qa4 (by decide) e3_39
  have e4_40 := Ev.sam qa4 (by rw [k3.1, hsz]; decide)
  rw [← qa4]
  clear qa4 e3_13 e3_9 e3_1 e3_39
  refine Ev.pv (N := 41) (v := .int .i64 (t : Int)) (W' := W) ?_ rfl rfl ?_
  · unfold execOp
    generalize a4.eval = ev at *
    go_simp
  obtain ⟨a5, qa5⟩ : ∃ z_, z_ = a4.put (some 41) (.int .i64 (t : Int)) := ⟨_, rfl⟩
  have k5 : Ev.Stay [37, 38, 39, 40, 41, 42, 43, 44, 45, 46, 47, 14, 15] a a5 := by rw [qa5]; exact k4.put (by decide) _
  have e5_13 := Ev.oth qa5 (by decide) e4_13
  have e5_9 := Ev.oth qa5 (by decide) e4_9
  have e5_1 := Ev.oth qa5 (by decide) e4_1
  have e5_39 := Ev.oth qa5 (by decide) e4_39
  have e5_40 := Ev.oth qa5 (by decide) e4_40
  have e5_41 := Ev.sam qa5 (by rw [k4.1, hsz]; decide)
  rw [← qa5]
  clear qa5 e4_13 e4_9 e4_1 e4_39 e4_40
  refine Ev.pv (N := 42) (v := .int .i64 ((k * t : Nat) : Int)) (W' := W) ?_ rfl rfl ?_
  · have e_ : ((k * t : Nat) : Int) = (k : Int) * (t : Int) := by simp
    have kt_ := hkt
    unfold execOp
    generalize a5.eval = ev at *
    (go_simp; rw [← e_]; exact wr (by omega) (by omega))
  obtain ⟨a6, qa6⟩ : ∃ z_, z_ = a5.put (some 42) (.int .i64 ((k * t : Nat) : Int)) := ⟨_, rfl⟩
  have k6 : Ev.Stay [37, 38, 39, 40, 41, 42, 43, 44, 45, 46, 47, 14, 15] a a6 := by rw [qa6]; exact k5.put (by decide) _
  have e6_13 := Ev.oth qa6 (by decide) e5_13
  have e6_9 := Ev.oth qa6 (by decide) e5_9
  have e6_1 := Ev.oth qa6 (by decide) e5_1
  have e6_39 := Ev.oth qa6 (by decide) e5_39
  have e6_40 := Ev.oth qa6 (by decide) e5_40
  have e6_41 := Ev.oth qa6 (by decide) e5_41
  have e6_42 := Ev.sam qa6 (by rw [k5.1, hsz]; decide)
  rw [← qa6]
  clear qa6 e5_13 e5_9 e5_1 e5_39 e5_40 e5_41
  clear e6_40
  clear e6_41
  refine Ev.pv (N := 43) (v := .int .i64 (t : Int)) (W' := W) ?_ rfl rfl ?_
  · unfold execOp
    generalize a6.eval = ev at *
    go_simp
  obtain ⟨a7, qa7⟩ : ∃ z_, z_ = a6.put (some 43) (.int .i64 (t : Int)) := ⟨_, rfl⟩
  have k7 : Ev.Stay [37, 38, 39, 40, 41, 42, 43, 44, 45, 46, 47, 14, 15] a a7 := by rw [qa7]; exact k6.put (by decide) _
  have e7_13 := Ev.oth qa7 (by decide) e6_13
  have e7_9 := Ev.oth qa7 (by decide) e6_9
  have e7_1 := Ev.oth qa7 (by decide) e6_1
  have e7_39 := Ev.oth qa7 (by decide) e6_39
  have e7_42 := Ev.oth qa7 (by decide) e6_42
  have e7_43 := Ev.sam qa7 (by rw [k6.1, hsz]; decide)
  rw [← qa7]
  clear qa7 e6_13 e6_9 e6_1 e6_39 e6_42
  refine Ev.pv (N := 44) (v := .int .i64 ((k * t + t : Nat) : Int)) (W' := W) ?_ rfl rfl ?_
  · have e_ : ((k * t : Nat) : Int) = (k : Int) * (t : Int) := by simp
    have kt_ := hkt
    unfold execOp
    generalize a7.eval = ev at *
    (go_simp; rw [← e_]; exact wr (by omega) (by omega))
  obtain ⟨a8, qa8⟩ : ∃ z_, z_ = a7.put (some 44) (.int .i64 ((k * t + t : Nat) : Int)) := ⟨_, rfl⟩
  have k8 : Ev.Stay [37, 38, 39, 40, 41, 42, 43, 44, 45, 46, 47, 14, 15] a a8 := by rw [qa8]; exact k7.put (by decide) _
  have e8_13 := Ev.oth qa8 (by decide) e7_13
  have e8_9 := Ev.oth qa8 (by decide) e7_9
  have e8_1 := Ev.oth qa8 (by decide) e7_1
  have e8_39 := Ev.oth qa8 (by decide) e7_39
  have e8_42 := Ev.oth qa8 (by decide) e7_42
  have e8_43 := Ev.oth qa8 (by decide) e7_43
  have e8_44 := Ev.sam qa8 (by rw [k7.1, hsz]; decide)
  rw [← qa8]
  clear qa8 e7_13 e7_9 e7_1 e7_39 e7_42 e7_43
  clear e8_42
  clear e8_43
  refine Ev.pv (N := 45) (v := .slice A1 la.length c1) (W' := W) ?_ rfl rfl ?_
  · unfold execOp
    generalize a8.eval = ev at *
    go_simp
  obtain ⟨a9, qa9⟩ : ∃ z_, z_ = a8.put (some 45) (.slice A1 la.length c1) := ⟨_, rfl⟩
  have k9 : Ev.Stay [37, 38, 39, 40, 41, 42, 43, 44, 45, 46, 47, 14, 15] a a9 := by rw [qa9]; exact k8.put (by decide) _
  have e9_13 := Ev.oth qa9 (by decide) e8_13
  have e9_9 := Ev.oth qa9 (by decide) e8_9
  have e9_1 := Ev.oth qa9 (by decide) e8_1
  have e9_39 := Ev.oth qa9 (by decide) e8_39
  have e9_44 := Ev.oth qa9 (by decide) e8_44
  have e9_45 := Ev.sam qa9 (by rw [k8.1, hsz]; decide)
  rw [← qa9]
  clear qa9 e8_13 e8_9 e8_1 e8_39 e8_44
  refine Ev.pv (N := 46) (v := .int .i64 (la.length : Int)) (W' := W) ?_ rfl rfl ?_
  · unfold execOp
    generalize a9.eval = ev at *
    go_simp
  obtain ⟨a10, qa10⟩ : ∃ z_, z_ = a9.put (some 46) (.int .i64 (la.length : Int)) := ⟨_, rfl⟩
  have k10 : Ev.Stay [37, 38, 39, 40, 41, 42, 43, 44, 45, 46, 47, 14, 15] a a10 := by rw [qa10]; exact k9.put (by decide) _
  have e10_13 := Ev.oth qa10 (by decide) e9_13
  have e10_9 := Ev.oth qa10 (by decide) e9_9
  have e10_1 := Ev.oth qa10 (by decide) e9_1
  have e10_39 := Ev.oth qa10 (by decide) e9_39
  have e10_44 := Ev.oth qa10 (by decide) e9_44
  have e10_45 := Ev.oth qa10 (by decide) e9_45
  have e10_46 := Ev.sam qa10 (by rw [k9.1, hsz]; decide)
  rw [← qa10]
  clear qa10 e9_13 e9_9 e9_1 e9_39 e9_44 e9_45
  clear e10_45
  refine Ev.pv (N := 47) (v := .int .i64 (u : Int)) (W' := W) ?_ rfl rfl ?_
  · have hu_ := hu
    have hu2_ := hu2
    unfold execOp
    generalize a10.eval = ev at *
    (go_simp; try (first | exact hu2_ | omega))
  obtain ⟨a11, qa11⟩ : ∃ z_, z_ = a10.put (some 47) (.int .i64 (u : Int)) := ⟨_, rfl⟩
  have k11 : Ev.Stay [37, 38, 39, 40, 41, 42, 43, 44, 45, 46, 47, 14, 15] a a11 := by rw [qa11]; exact k10.put (by decide) _
  have e11_13 := Ev.oth qa11 (by decide) e10_13
  have e11_9 := Ev.oth qa11 (by decide) e10_9
  have e11_1 := Ev.oth qa11 (by decide) e10_1
  have e11_39 := Ev.oth qa11 (by decide) e10_39
  have e11_44 := Ev.oth qa11 (by decide) e10_44
  have e11_46 := Ev.oth qa11 (by decide) e10_46
  have e11_47 := Ev.sam qa11 (by rw [k10.1, hsz]; decide)
  rw [← qa11]
  clear qa11 e10_13 e10_9 e10_1 e10_39 e10_44 e10_46
  clear e11_44
  clear e11_46
  refine Ev.pv (N := 14) (v := .int .i64 ((k * t : Nat) : Int)) (W' := W) ?_ rfl rfl ?_
  · unfold execOp
    generalize a11.eval = ev at *
    go_simp
  obtain ⟨a12, qa12⟩ : ∃ z_, z_ = a11.put (some 14) (.int .i64 ((k * t : Nat) : Int)) := ⟨_, rfl⟩
  have k12 : Ev.Stay [37, 38, 39, 40, 41, 42, 43, 44, 45, 46, 47, 14, 15] a a12 := by rw [qa12]; exact k11.put (by decide) _
  have e12_13 := Ev.oth qa12 (by decide) e11_13
  have e12_9 := Ev.oth qa12 (by decide) e11_9
  have e12_1 := Ev.oth qa12 (by decide) e11_1
  have e12_39 := Ev.oth qa12 (by decide) e11_39
  have e12_47 := Ev.oth qa12 (by decide) e11_47
  have e12_14 := Ev.sam qa12 (by rw [k11.1, hsz]; decide)
  rw [← qa12]
  clear qa12 e11_13 e11_9 e11_1 e11_39 e11_47
  refine Ev.pv (N := 15) (v := .int .i64 (u : Int)) (W' := W) ?_ rfl rfl ?_
  · unfold execOp
    generalize a12.eval = ev at *
    go_simp
  obtain ⟨a13, qa13⟩ : ∃ z_, z_ = a12.put (some 15) (.int .i64 (u : Int)) := ⟨_, rfl⟩
  have k13 : Ev.Stay [37, 38, 39, 40, 41, 42, 43, 44, 45, 46, 47, 14, 15] a a13 := by rw [qa13]; exact k12.put (by decide) _
  have e13_13 := Ev.oth qa13 (by decide) e12_13
  have e13_9 := Ev.oth qa13 (by decide) e12_9
  have e13_1 := Ev.oth qa13 (by decide) e12_1
  have e13_39 := Ev.oth qa13 (by decide) e12_39
  have e13_47 := Ev.oth qa13 (by decide) e12_47
  have e13_14 := Ev.oth qa13 (by decide) e12_14
  have e13_15 := Ev.sam qa13 (by rw [k12.1, hsz]; decide)
  rw [← qa13]
  clear qa13 e12_13 e12_9 e12_1 e12_39 e12_47 e12_14
  exact hQ _ k13 e13_14 e13_15
set_option maxHeartbeats 2000000 in
theorem Rg.r12 {id : Nat} {Q : Exit → Act → World → Prop} {a : Act} {W : World} {u : Nat}
    (hsz : a.tmps.size = 128)  (h15 : a.eval (.tmp 15) = .int .i64 (u : Int))
    (hQ : ∀ a', Ev.Stay [58, 17] a a' → a'.eval (.tmp 17) = .int .i64 (u : Int) → Q .normal a' (W)) : (Code.region id (Ru.ops 10 12) false).wp Try.prog Q a W := by
  refine wp_region_list ?_
  show wpList _ _ _ (_ :: _ :: []) _ _
  have k0 : Ev.Stay [58, 17] a a := Ev.Stay.refl [58, 17] a
  refine Ev.pv (N := 58) (v := .int .i64 (u : Int)) (W' := W) ?_ rfl rfl ?_
  · unfold execOp
    generalize a.eval = ev at *
    go_simp
  obtain ⟨a1, qa1⟩ : ∃ z_, z_ = a.put (some 58) (.int .i64 (u : Int)) := ⟨_, rfl⟩
  have k1 : Ev.Stay [58, 17] a a1 := by rw [qa1]; exact k0.put (by decide) _
  have e1_15 := Ev.oth qa1 (by decide) h15
  have e1_58 := Ev.sam qa1 (by rw [k0.1, hsz]; decide)
  rw [← qa1]
  clear qa1 
  refine Ev.pv (N := 17) (v := .int .i64 (u : Int)) (W' := W) ?_ rfl rfl ?_
  · unfold execOp
    generalize a1.eval = ev at *
    go_simp
  obtain ⟨a2, qa2⟩ : ∃ z_, z_ = a1.put (some 17) (.int .i64 (u : Int)) := ⟨_, rfl⟩
  have k2 : Ev.Stay [58, 17] a a2 := by rw [qa2]; exact k1.put (by decide) _
  have e2_15 := Ev.oth qa2 (by decide) e1_15
  have e2_58 := Ev.oth qa2 (by decide) e1_58
  have e2_17 := Ev.sam qa2 (by rw [k1.1, hsz]; decide)
  rw [← qa2]
  clear qa2 e1_15 e1_58
  exact hQ _ k2 e2_17
set_option maxHeartbeats 2000000 in
theorem Rg.r13a {id : Nat} {Q : Exit → Act → World → Prop} {a : Act} {W : World} {i f j : Nat}
    (hsz : a.tmps.size = 128)  (h17 : a.eval (.tmp 17) = .int .i64 (i : Int)) (h14 : a.eval (.tmp 14) = .int .i64 (f : Int)) (h12 : a.eval (.tmp 12) = .int .i64 (j : Int)) (hf : i ≤ f)
    (hQ : ∀ a', Ev.Stay [59, 60, 61, 62, 63, 64, 65] a a' → a'.eval (.tmp 65) = .bool false → Q .normal a' (W)) : (Code.region id (Ru.ops 10 13) false).wp Try.prog Q a W := by
  have hops : Ru.ops 10 13 = List.toArray [_, _, _, _, _, _, _] := rfl
  refine wp_region_list ?_
  show wpList _ _ _ (_ :: _ :: _ :: _ :: _ :: _ :: _ :: []) _ _
  have k0 : Ev.Stay [59, 60, 61, 62, 63, 64, 65] a a := Ev.Stay.refl [59, 60, 61, 62, 63, 64, 65] a
  refine Ev.pv (N := 59) (v := .int .i64 (i : Int)) (W' := W) ?_ rfl rfl ?_
  · unfold execOp
    generalize a.eval = ev at *
    go_simp
  obtain ⟨a1, qa1⟩ : ∃ z_, z_ = a.put (some 59) (.int .i64 (i : Int)) := ⟨_, rfl⟩
  have k1 : Ev.Stay [59, 60, 61, 62, 63, 64, 65] a a1 := by rw [qa1]; exact k0.put (by decide) _
  have e1_17 := Ev.oth qa1 (by decide) h17
  have e1_14 := Ev.oth qa1 (by decide) h14
  have e1_12 := Ev.oth qa1 (by decide) h12
  have e1_59 := Ev.sam qa1 (by rw [k0.1, hsz]; decide)
  rw [← qa1]
  clear qa1 
  refine Ev.pv (N := 60) (v := .int .i64 (f : Int)) (W' := W) ?_ rfl rfl ?_
  · unfold execOp
    generalize a1.eval = ev at *
    go_simp
  obtain ⟨a2, qa2⟩ : ∃ z_, z_ = a1.put (some 60) (.int .i64 (f : Int)) := ⟨_, rfl⟩
  have k2 : Ev.Stay [59, 60, 61, 62, 63, 64, 65] a a2 := by rw [qa2]; exact k1.put (by decide) _
  have e2_17 := Ev.oth qa2 (by decide) e1_17
  have e2_14 := Ev.oth qa2 (by decide) e1_14
  have e2_12 := Ev.oth qa2 (by decide) e1_12
  have e2_59 := Ev.oth qa2 (by decide) e1_59
  have e2_60 := Ev.sam qa2 (by rw [k1.1, hsz]; decide)
  rw [← qa2]
  clear qa2 e1_17 e1_14 e1_12 e1_59
  refine Ev.pv (N := 61) (v := .bool false) (W' := W) ?_ rfl rfl ?_
  · have f0_ : ¬ f < i := by omega
    have f_ : decide (f < i) = false := decide_eq_false f0_
    unfold execOp
    generalize a2.eval = ev at *
    (go_simp; try (first | exact f0_ | exact f_ | (simp; omega)))
  obtain ⟨a3, qa3⟩ : ∃ z_, z_ = a2.put (some 61) (.bool false) := ⟨_, rfl⟩
  have k3 : Ev.Stay [59, 60, 61, 62, 63, 64, 65] a a3 := by rw [qa3]; exact k2.put (by decide) _
  have e3_17 := Ev.oth qa3 (by decide) e2_17
  have e3_14 := Ev.oth qa3 (by decide) e2_14
  have e3_12 := Ev.oth qa3 (by decide) e2_12
  have e3_59 := Ev.oth qa3 (by decide) e2_59
  have e3_60 := Ev.oth qa3 (by decide) e2_60
  have e3_61 := Ev.sam qa3 (by rw [k2.1, hsz]; decide)
  rw [← qa3]
  clear qa3 e2_17 e2_14 e2_12 e2_59 e2_60
  clear e3_59
  clear e3_60
  refine Ev.pv (N := 62) (v := .bool false) (W' := W) ?_ rfl rfl ?_
  · unfold execOp
    generalize a3.eval = ev at *
    go_simp
  obtain ⟨a4, qa4⟩ : ∃ z_, z_ = a3.put (some 62) (.bool false) := ⟨_, rfl⟩
  have k4 : Ev.Stay [59, 60, 61, 62, 63, 64, 65] a a4 := by rw [qa4]; exact k3.put (by decide) _
  have e4_17 := Ev.oth qa4 (by decide) e3_17
  have e4_14 := Ev.oth qa4 (by decide) e3_14
  have e4_12 := Ev.oth qa4 (by decide) e3_12
  have e4_61 := Ev.oth qa4 (by decide) e3_61
  have e4_62 := Ev.sam qa4 (by rw [k3.1, hsz]; decide)
  rw [← qa4]
  clear qa4 e3_17 e3_14 e3_12 e3_61
  clear e4_61
  refine Ev.skip (N := 63) ((Ev.wantedIs rfl (Rg.of hops (Rg.atS (Rg.atS (Rg.atS Rg.at0)))) rfl e4_62).trans rfl) rfl ?_
  obtain ⟨a5, qa5⟩ : ∃ z_, z_ = a4.put (some 63) (undef) := ⟨_, rfl⟩
  have k5 : Ev.Stay [59, 60, 61, 62, 63, 64, 65] a a5 := by rw [qa5]; exact k4.put (by decide) _
  have e5_17 := Ev.oth qa5 (by decide) e4_17
  have e5_14 := Ev.oth qa5 (by decide) e4_14
  have e5_12 := Ev.oth qa5 (by decide) e4_12
  have e5_62 := Ev.oth qa5 (by decide) e4_62
  have e5_63 := Ev.sam qa5 (by rw [k4.1, hsz]; decide)
  rw [← qa5]
  clear qa5 e4_17 e4_14 e4_12 e4_62
  clear e5_63
  refine Ev.skip (N := 64) ((Ev.wantedIs rfl (Rg.of hops (Rg.atS (Rg.atS (Rg.atS Rg.at0)))) rfl e5_62).trans rfl) rfl ?_
  obtain ⟨a6, qa6⟩ : ∃ z_, z_ = a5.put (some 64) (undef) := ⟨_, rfl⟩
  have k6 : Ev.Stay [59, 60, 61, 62, 63, 64, 65] a a6 := by rw [qa6]; exact k5.put (by decide) _
  have e6_17 := Ev.oth qa6 (by decide) e5_17
  have e6_14 := Ev.oth qa6 (by decide) e5_14
  have e6_12 := Ev.oth qa6 (by decide) e5_12
  have e6_62 := Ev.oth qa6 (by decide) e5_62
  have e6_64 := Ev.sam qa6 (by rw [k5.1, hsz]; decide)
  rw [← qa6]
  clear qa6 e5_17 e5_14 e5_12 e5_62
  clear e6_64
  refine Ev.pv (N := 65) (v := .bool false) (W' := W) ?_ rfl rfl ?_
  · have ec0 : a6.eval (.const (.bool false)) = .bool false := rfl
    unfold execOp
    generalize a6.eval = ev at *
    go_simp
  obtain ⟨a7, qa7⟩ : ∃ z_, z_ = a6.put (some 65) (.bool false) := ⟨_, rfl⟩
  have k7 : Ev.Stay [59, 60, 61, 62, 63, 64, 65] a a7 := by rw [qa7]; exact k6.put (by decide) _
  have e7_17 := Ev.oth qa7 (by decide) e6_17
  have e7_14 := Ev.oth qa7 (by decide) e6_14
  have e7_12 := Ev.oth qa7 (by decide) e6_12
  have e7_62 := Ev.oth qa7 (by decide) e6_62
  have e7_65 := Ev.sam qa7 (by rw [k6.1, hsz]; decide)
  rw [← qa7]
  clear qa7 e6_17 e6_14 e6_12 e6_62
  exact hQ _ k7 e7_65
set_option maxHeartbeats 2000000 in
theorem Rg.r13b {id : Nat} {Q : Exit → Act → World → Prop} {a : Act} {W : World} {i f j : Nat}
    (hsz : a.tmps.size = 128)  (h17 : a.eval (.tmp 17) = .int .i64 (i : Int)) (h14 : a.eval (.tmp 14) = .int .i64 (f : Int)) (h12 : a.eval (.tmp 12) = .int .i64 (j : Int)) (hf : f < i) (hj : j = 0)
    (hQ : ∀ a', Ev.Stay [59, 60, 61, 62, 63, 64, 65] a a' → a'.eval (.tmp 65) = .bool false → Q .normal a' (W)) : (Code.region id (Ru.ops 10 13) false).wp Try.prog Q a W := by
  have hops : Ru.ops 10 13 = List.toArray [_, _, _, _, _, _, _] := rfl
  refine wp_region_list ?_
  show wpList _ _ _ (_ :: _ :: _ :: _ :: _ :: _ :: _ :: []) _ _
  have k0 : Ev.Stay [59, 60, 61, 62, 63, 64, 65] a a := Ev.Stay.refl [59, 60, 61, 62, 63, 64, 65] a
  refine Ev.pv (N := 59) (v := .int .i64 (i : Int)) (W' := W) ?_ rfl rfl ?_
  · unfold execOp
    generalize a.eval = ev at *
    go_simp
  obtain ⟨a1, qa1⟩ : ∃ z_, z_ = a.put (some 59) (.int .i64 (i : Int)) := ⟨_, rfl⟩
  have k1 : Ev.Stay [59, 60, 61, 62, 63, 64, 65] a a1 := by rw [qa1]; exact k0.put (by decide) _
  have e1_17 := Ev.oth qa1 (by decide) h17
  have e1_14 := Ev.oth qa1 (by decide) h14
  have e1_12 := Ev.oth qa1 (by decide) h12
  have e1_59 := Ev.sam qa1 (by rw [k0.1, hsz]; decide)
  rw [← qa1]
  clear qa1 
  refine Ev.pv (N := 60) (v := .int .i64 (f : Int)) (W' := W) ?_ rfl rfl ?_
  · unfold execOp
    generalize a1.eval = ev at *
    go_simp
  obtain ⟨a2, qa2⟩ : ∃ z_, z_ = a1.put (some 60) (.int .i64 (f : Int)) := ⟨_, rfl⟩
  have k2 : Ev.Stay [59, 60, 61, 62, 63, 64, 65] a a2 := by rw [qa2]; exact k1.put (by decide) _
  have e2_17 := Ev.oth qa2 (by decide) e1_17
  have e2_14 := Ev.oth qa2 (by decide) e1_14
  have e2_12 := Ev.oth qa2 (by decide) e1_12
  have e2_59 := Ev.oth qa2 (by decide) e1_59
  have e2_60 := Ev.sam qa2 (by rw [k1.1, hsz]; decide)
  rw [← qa2]
  clear qa2 e1_17 e1_14 e1_12 e1_59
  refine Ev.pv (N := 61) (v := .bool true) (W' := W) ?_ rfl rfl ?_
  · have f_ : decide (f < i) = true := decide_eq_true hf
    unfold execOp
    generalize a2.eval = ev at *
    (go_simp; try (first | exact f0_ | exact f_ | (simp; omega)))
  obtain ⟨a3, qa3⟩ : ∃ z_, z_ = a2.put (some 61) (.bool true) := ⟨_, rfl⟩
  have k3 : Ev.Stay [59, 60, 61, 62, 63, 64, 65] a a3 := by rw [qa3]; exact k2.put (by decide) _
  have e3_17 := Ev.oth qa3 (by decide) e2_17
  have e3_14 := Ev.oth qa3 (by decide) e2_14
  have e3_12 := Ev.oth qa3 (by decide) e2_12
  have e3_59 := Ev.oth qa3 (by decide) e2_59
  have e3_60 := Ev.oth qa3 (by decide) e2_60
  have e3_61 := Ev.sam qa3 (by rw [k2.1, hsz]; decide)
  rw [← qa3]
  clear qa3 e2_17 e2_14 e2_12 e2_59 e2_60
  clear e3_59
  clear e3_60
  refine Ev.pv (N := 62) (v := .bool true) (W' := W) ?_ rfl rfl ?_
  · unfold execOp
    generalize a3.eval = ev at *
    go_simp
  obtain ⟨a4, qa4⟩ : ∃ z_, z_ = a3.put (some 62) (.bool true) := ⟨_, rfl⟩
  have k4 : Ev.Stay [59, 60, 61, 62, 63, 64, 65] a a4 := by rw [qa4]; exact k3.put (by decide) _
  have e4_17 := Ev.oth qa4 (by decide) e3_17
  have e4_14 := Ev.oth qa4 (by decide) e3_14
  have e4_12 := Ev.oth qa4 (by decide) e3_12
  have e4_61 := Ev.oth qa4 (by decide) e3_61
  have e4_62 := Ev.sam qa4 (by rw [k3.1, hsz]; decide)
  rw [← qa4]
  clear qa4 e3_17 e3_14 e3_12 e3_61
  clear e4_61
  refine Ev.pvG (N := 63) (v := .int .i64 (j : Int)) (W' := W) ?_ ((Ev.wantedIs rfl (Rg.of hops (Rg.atS (Rg.atS (Rg.atS Rg.at0)))) rfl e4_62).trans rfl) rfl ?_
  · unfold execOp
    generalize a4.eval = ev at *
    go_simp
  obtain ⟨a5, qa5⟩ : ∃ z_, z_ = a4.put (some 63) (.int .i64 (j : Int)) := ⟨_, rfl⟩
  have k5 : Ev.Stay [59, 60, 61, 62, 63, 64, 65] a a5 := by rw [qa5]; exact k4.put (by decide) _
  have e5_17 := Ev.oth qa5 (by decide) e4_17
  have e5_14 := Ev.oth qa5 (by decide) e4_14
  have e5_12 := Ev.oth qa5 (by decide) e4_12
  have e5_62 := Ev.oth qa5 (by decide) e4_62
  have e5_63 := Ev.sam qa5 (by rw [k4.1, hsz]; decide)
  rw [← qa5]
  clear qa5 e4_17 e4_14 e4_12 e4_62
  refine Ev.pvG (N := 64) (v := .bool false) (W' := W) ?_ ((Ev.wantedIs rfl (Rg.of hops (Rg.atS (Rg.atS (Rg.atS Rg.at0)))) rfl e5_62).trans rfl) rfl ?_
  · have ec0 : a5.eval (.const (.int .i64 (0))) = .int .i64 (0) := rfl
    have f0_ := hj
    unfold execOp
    generalize a5.eval = ev at *
    (go_simp; try (first | exact f0_ | exact f_ | (simp; omega)))
  obtain ⟨a6, qa6⟩ : ∃ z_, z_ = a5.put (some 64) (.bool false) := ⟨_, rfl⟩
  have k6 : Ev.Stay [59, 60, 61, 62, 63, 64, 65] a a6 := by rw [qa6]; exact k5.put (by decide) _
  have e6_17 := Ev.oth qa6 (by decide) e5_17
  have e6_14 := Ev.oth qa6 (by decide) e5_14
  have e6_12 := Ev.oth qa6 (by decide) e5_12
  have e6_62 := Ev.oth qa6 (by decide) e5_62
  have e6_63 := Ev.oth qa6 (by decide) e5_63
  have e6_64 := Ev.sam qa6 (by rw [k5.1, hsz]; decide)
  rw [← qa6]
  clear qa6 e5_17 e5_14 e5_12 e5_62 e5_63
  clear e6_63
  refine Ev.pv (N := 65) (v := .bool false) (W' := W) ?_ rfl rfl ?_
  · have ec0 : a6.eval (.const (.bool false)) = .bool false := rfl
    unfold execOp
    generalize a6.eval = ev at *
    go_simp
  obtain ⟨a7, qa7⟩ : ∃ z_, z_ = a6.put (some 65) (.bool false) := ⟨_, rfl⟩
  have k7 : Ev.Stay [59, 60, 61, 62, 63, 64, 65] a a7 := by rw [qa7]; exact k6.put (by decide) _
  have e7_17 := Ev.oth qa7 (by decide) e6_17
  have e7_14 := Ev.oth qa7 (by decide) e6_14
  have e7_12 := Ev.oth qa7 (by decide) e6_12
  have e7_62 := Ev.oth qa7 (by decide) e6_62
  have e7_64 := Ev.oth qa7 (by decide) e6_64
  have e7_65 := Ev.sam qa7 (by rw [k6.1, hsz]; decide)
  rw [← qa7]
  clear qa7 e6_17 e6_14 e6_12 e6_62 e6_64
  exact hQ _ k7 e7_65
set_option maxHeartbeats 2000000 in
theorem Rg.r13c {id : Nat} {Q : Exit → Act → World → Prop} {a : Act} {W : World} {i f j : Nat}
    (hsz : a.tmps.size = 128)  (h17 : a.eval (.tmp 17) = .int .i64 (i : Int)) (h14 : a.eval (.tmp 14) = .int .i64 (f : Int)) (h12 : a.eval (.tmp 12) = .int .i64 (j : Int)) (hf : f < i) (hj : 0 < j)
    (hQ : ∀ a', Ev.Stay [59, 60, 61, 62, 63, 64, 65] a a' → a'.eval (.tmp 65) = .bool true → Q .normal a' (W)) : (Code.region id (Ru.ops 10 13) false).wp Try.prog Q a W := by
  have hops : Ru.ops 10 13 = List.toArray [_, _, _, _, _, _, _] := rfl
  refine wp_region_list ?_
  show wpList _ _ _ (_ :: _ :: _ :: _ :: _ :: _ :: _ :: []) _ _
  have k0 : Ev.Stay [59, 60, 61, 62, 63, 64, 65] a a := Ev.Stay.refl [59, 60, 61, 62, 63, 64, 65] a
  refine Ev.pv (N := 59) (v := .int .i64 (i : Int)) (W' := W) ?_ rfl rfl ?_
  · unfold execOp
    generalize a.eval = ev at *
    go_simp
  obtain ⟨a1, qa1⟩ : ∃ z_, z_ = a.put (some 59) (.int .i64 (i : Int)) := ⟨_, rfl⟩
  have k1 : Ev.Stay [59, 60, 61, 62, 63, 64, 65] a a1 := by rw [qa1]; exact k0.put (by decide) _
  have e1_17 := Ev.oth qa1 (by decide) h17
  have e1_14 := Ev.oth qa1 (by decide) h14
  have e1_12 := Ev.oth qa1 (by decide) h12
  have e1_59 := Ev.sam qa1 (by rw [k0.1, hsz]; decide)
  rw [← qa1]
  clear qa1 
  refine Ev.pv (N := 60) (v := .int .i64 (f : Int)) (W' := W) ?_ rfl rfl ?_
  · unfold execOp
    generalize a1.eval = ev at *
    go_simp
  obtain ⟨a2, qa2⟩ : ∃ z_, z_ = a1.put (some 60) (.int .i64 (f : Int)) := ⟨_, rfl⟩
  have k2 : Ev.Stay [59, 60, 61, 62, 63, 64, 65] a a2 := by rw [qa2]; exact k1.put (by decide) _
  have e2_17 := Ev.oth qa2 (by decide) e1_17
  have e2_14 := Ev.oth qa2 (by decide) e1_14
  have e2_12 := Ev.oth qa2 (by decide) e1_12
  have e2_59 := Ev.oth qa2 (by decide) e1_59
  have e2_60 := Ev.sam qa2 (by rw [k1.1, hsz]; decide)
  rw [← qa2]
  clear qa2 e1_17 e1_14 e1_12 e1_59
  refine Ev.pv (N := 61) (v := .bool true) (W' := W) ?_ rfl rfl ?_
  · have f_ : decide (f < i) = true := decide_eq_true hf
    unfold execOp
    generalize a2.eval = ev at *
    (go_simp; try (first | exact f0_ | exact f_ | (simp; omega)))
  obtain ⟨a3, qa3⟩ : ∃ z_, z_ = a2.put (some 61) (.bool true) := ⟨_, rfl⟩
  have k3 : Ev.Stay [59, 60, 61, 62, 63, 64, 65] a a3 := by rw [qa3]; exact k2.put (by decide) _
  have e3_17 := Ev.oth qa3 (by decide) e2_17
  have e3_14 := Ev.oth qa3 (by decide) e2_14
  have e3_12 := Ev.oth qa3 (by decide) e2_12
  have e3_59 := Ev.oth qa3 (by decide) e2_59
  have e3_60 := Ev.oth qa3 (by decide) e2_60
  have e3_61 := Ev.sam qa3 (by rw [k2.1, hsz]; decide)
  rw [← qa3]
  clear qa3 e2_17 e2_14 e2_12 e2_59 e2_60
  clear e3_59
  clear e3_60
  refine Ev.pv (N := 62) (v := .bool true) (W' := W) ?_ rfl rfl ?_
  · unfold execOp
    generalize a3.eval = ev at *
    go_simp
  obtain ⟨a4, qa4⟩ : ∃ z_, z_ = a3.put (some 62) (.bool true) := ⟨_, rfl⟩
  have k4 : Ev.Stay [59, 60, 61, 62, 63, 64, 65] a a4 := by rw [qa4]; exact k3.put (by decide) _
  have e4_17 := Ev.oth qa4 (by decide) e3_17
  have e4_14 := Ev.oth qa4 (by decide) e3_14
  have e4_12 := Ev.oth qa4 (by decide) e3_12
  have e4_61 := Ev.oth qa4 (by decide) e3_61
  have e4_62 := Ev.sam qa4 (by rw [k3.1, hsz]; decide)
  rw [← qa4]
  clear qa4 e3_17 e3_14 e3_12 e3_61
  clear e4_61
  refine Ev.pvG (N := 63) (v := .int .i64 (j : Int)) (W' := W) ?_ ((Ev.wantedIs rfl (Rg.of hops (Rg.atS (Rg.atS (Rg.atS Rg.at0)))) rfl e4_62).trans rfl) rfl ?_
  · unfold execOp
    generalize a4.eval = ev at *
    go_simp
  obtain ⟨a5, qa5⟩ : ∃ z_, z_ = a4.put (some 63) (.int .i64 (j : Int)) := ⟨_, rfl⟩
  have k5 : Ev.Stay [59, 60, 61, 62, 63, 64, 65] a a5 := by rw [qa5]; exact k4.put (by decide) _
  have e5_17 := Ev.oth qa5 (by decide) e4_17
  have e5_14 := Ev.oth qa5 (by decide) e4_14
  have e5_12 := Ev.oth qa5 (by decide) e4_12
  have e5_62 := Ev.oth qa5 (by decide) e4_62
  have e5_63 := Ev.sam qa5 (by rw [k4.1, hsz]; decide)
  rw [← qa5]
  clear qa5 e4_17 e4_14 e4_12 e4_62
  refine Ev.pvG (N := 64) (v := .bool true) (W' := W) ?_ ((Ev.wantedIs rfl (Rg.of hops (Rg.atS (Rg.atS (Rg.atS Rg.at0)))) rfl e5_62).trans rfl) rfl ?_
  · have ec0 : a5.eval (.const (.int .i64 (0))) = .int .i64 (0) := rfl
    have f_ : decide (0 < j) = true := decide_eq_true hj
    unfold execOp
    generalize a5.eval = ev at *
    (go_simp; try (first | exact f0_ | exact f_ | (simp; omega)))
  obtain ⟨a6, qa6⟩ : ∃ z_, z_ = a5.put (some 64) (.bool true) := ⟨_, rfl⟩
  have k6 : Ev.Stay [59, 60, 61, 62, 63, 64, 65] a a6 := by rw [qa6]; exact k5.put (by decide) _
  have e6_17 := Ev.oth qa6 (by decide) e5_17
  have e6_14 := Ev.oth qa6 (by decide) e5_14
  have e6_12 := Ev.oth qa6 (by decide) e5_12
  have e6_62 := Ev.oth qa6 (by decide) e5_62
  have e6_63 := Ev.oth qa6 (by decide) e5_63
  have e6_64 := Ev.sam qa6 (by rw [k5.1, hsz]; decide)
  rw [← qa6]
  clear qa6 e5_17 e5_14 e5_12 e5_62 e5_63
  clear e6_63
  refine Ev.pv (N := 65) (v := .bool true) (W' := W) ?_ rfl rfl ?_
  · have ec0 : a6.eval (.const (.bool false)) = .bool false := rfl
    unfold execOp
    generalize a6.eval = ev at *
    go_simp
  obtain ⟨a7, qa7⟩ : ∃ z_, z_ = a6.put (some 65) (.bool true) := ⟨_, rfl⟩
  have k7 : Ev.Stay [59, 60, 61, 62, 63, 64, 65] a a7 := by rw [qa7]; exact k6.put (by decide) _
  have e7_17 := Ev.oth qa7 (by decide) e6_17
  have e7_14 := Ev.oth qa7 (by decide) e6_14
  have e7_12 := Ev.oth qa7 (by decide) e6_12
  have e7_62 := Ev.oth qa7 (by decide) e6_62
  have e7_64 := Ev.oth qa7 (by decide) e6_64
  have e7_65 := Ev.sam qa7 (by rw [k6.1, hsz]; decide)
  rw [← qa7]
  clear qa7 e6_17 e6_14 e6_12 e6_62 e6_64
  exact hQ _ k7 e7_65
set_option maxHeartbeats 2000000 in
theorem Rg.r19 {id : Nat} {Q : Exit → Act → World → Prop} {a : Act} {W : World} {i : Nat}
    (hsz : a.tmps.size = 128)  (h17 : a.eval (.tmp 17) = .int .i64 (i : Int)) (hi : 0 < i) (hi2 : i ≤ 1000)
    (hQ : ∀ a', Ev.Stay [114, 115, 17] a a' → a'.eval (.tmp 17) = .int .i64 ((i - 1 : Nat) : Int) → Q .normal a' (W)) : (Code.region id (Ru.ops 10 19) false).wp Try.prog Q a W := by
  refine wp_region_list ?_
  show wpList _ _ _ (_ :: _ :: _ :: []) _ _
  have k0 : Ev.Stay [114, 115, 17] a a := Ev.Stay.refl [114, 115, 17] a
  refine Ev.pv (N := 114) (v := .int .i64 (i : Int)) (W' := W) ?_ rfl rfl ?_
  · unfold execOp
    generalize a.eval = ev at *
    go_simp
  obtain ⟨a1, qa1⟩ : ∃ z_, z_ = a.put (some 114) (.int .i64 (i : Int)) := ⟨_, rfl⟩
  have k1 : Ev.Stay [114, 115, 17] a a1 := by rw [qa1]; exact k0.put (by decide) _
  have e1_17 := Ev.oth qa1 (by decide) h17
  have e1_114 := Ev.sam qa1 (by rw [k0.1, hsz]; decide)
  rw [← qa1]
  clear qa1 
  refine Ev.pv (N := 115) (v := .int .i64 ((i - 1 : Nat) : Int)) (W' := W) ?_ rfl rfl ?_
  · have ec0 : a1.eval (.const (.int .i64 (1))) = .int .i64 (1) := rfl
    unfold execOp
    generalize a1.eval = ev at *
    (go_simp; try (rw [wr (by omega) (by omega)]; omega))
  obtain ⟨a2, qa2⟩ : ∃ z_, z_ = a1.put (some 115) (.int .i64 ((i - 1 : Nat) : Int)) := ⟨_, rfl⟩
  have k2 : Ev.Stay [114, 115, 17] a a2 := by rw [qa2]; exact k1.put (by decide) _
  have e2_17 := Ev.oth qa2 (by decide) e1_17
  have e2_114 := Ev.oth qa2 (by decide) e1_114
  have e2_115 := Ev.sam qa2 (by rw [k1.1, hsz]; decide)
  rw [← qa2]
  clear qa2 e1_17 e1_114
  clear e2_114
  refine Ev.pv (N := 17) (v := .int .i64 ((i - 1 : Nat) : Int)) (W' := W) ?_ rfl rfl ?_
  · unfold execOp
    generalize a2.eval = ev at *
    go_simp
  obtain ⟨a3, qa3⟩ : ∃ z_, z_ = a2.put (some 17) (.int .i64 ((i - 1 : Nat) : Int)) := ⟨_, rfl⟩
  have k3 : Ev.Stay [114, 115, 17] a a3 := by rw [qa3]; exact k2.put (by decide) _
  have e3_115 := Ev.oth qa3 (by decide) e2_115
  have e3_17 := Ev.sam qa3 (by rw [k2.1, hsz]; decide)
  rw [← qa3]
  clear qa3 e2_17 e2_115
  exact hQ _ k3 e3_17
set_option maxHeartbeats 2000000 in
theorem Rg.r14 {id : Nat} {Q : Exit → Act → World → Prop} {a : Act} {W : World} {i : Nat}
    (hsz : a.tmps.size = 128)  (h12 : a.eval (.tmp 12) = .int .i64 (i : Int)) (hi : 0 < i) (hi2 : i ≤ 1000)
    (hQ : ∀ a', Ev.Stay [66, 67, 12] a a' → a'.eval (.tmp 12) = .int .i64 ((i - 1 : Nat) : Int) → Q .normal a' (W)) : (Code.region id (Ru.ops 10 14) false).wp Try.prog Q a W := by
  refine wp_region_list ?_
  show wpList _ _ _ (_ :: _ :: _ :: []) _ _
  have k0 : Ev.Stay [66, 67, 12] a a := Ev.Stay.refl [66, 67, 12] a
  refine Ev.pv (N := 66) (v := .int .i64 (i : Int)) (W' := W) ?_ rfl rfl ?_
  · unfold execOp
    generalize a.eval = ev at *
    go_simp
  obtain ⟨a1, qa1⟩ : ∃ z_, z_ = a.put (some 66) (.int .i64 (i : Int)) := ⟨_, rfl⟩
  have k1 : Ev.Stay [66, 67, 12] a a1 := by rw [qa1]; exact k0.put (by decide) _
  have e1_12 := Ev.oth qa1 (by decide) h12
  have e1_66 := Ev.sam qa1 (by rw [k0.1, hsz]; decide)
  rw [← qa1]
  clear qa1 
  refine Ev.pv (N := 67) (v := .int .i64 ((i - 1 : Nat) : Int)) (W' := W) ?_ rfl rfl ?_
  · have ec0 : a1.eval (.const (.int .i64 (1))) = .int .i64 (1) := rfl
    unfold execOp
    generalize a1.eval = ev at *
    (go_simp; try (rw [wr (by omega) (by omega)]; omega))
  obtain ⟨a2, qa2⟩ : ∃ z_, z_ = a1.put (some 67) (.int .i64 ((i - 1 : Nat) : Int)) := ⟨_, rfl⟩
  have k2 : Ev.Stay [66, 67, 12] a a2 := by rw [qa2]; exact k1.put (by decide) _
  have e2_12 := Ev.oth qa2 (by decide) e1_12
  have e2_66 := Ev.oth qa2 (by decide) e1_66
  have e2_67 := Ev.sam qa2 (by rw [k1.1, hsz]; decide)
  rw [← qa2]
  clear qa2 e1_12 e1_66
  clear e2_66
  refine Ev.pv (N := 12) (v := .int .i64 ((i - 1 : Nat) : Int)) (W' := W) ?_ rfl rfl ?_
  · unfold execOp
    generalize a2.eval = ev at *
    go_simp
  obtain ⟨a3, qa3⟩ : ∃ z_, z_ = a2.put (some 12) (.int .i64 ((i - 1 : Nat) : Int)) := ⟨_, rfl⟩
  have k3 : Ev.Stay [66, 67, 12] a a3 := by rw [qa3]; exact k2.put (by decide) _
  have e3_67 := Ev.oth qa3 (by decide) e2_67
  have e3_12 := Ev.sam qa3 (by rw [k2.1, hsz]; decide)
  rw [← qa3]
  clear qa3 e2_12 e2_67
  exact hQ _ k3 e3_12
set_option maxHeartbeats 2000000 in
theorem Rg.r17 {id : Nat} {Q : Exit → Act → World → Prop} {a : Act} {W : World} {i j : Nat}
    (hsz : a.tmps.size = 128)  (h17 : a.eval (.tmp 17) = .int .i64 (i : Int)) (h12 : a.eval (.tmp 12) = .int .i64 (j : Int)) (hi : 0 < i) (hi2 : i ≤ 1000) (hj : 0 < j) (hj2 : j ≤ 1000)
    (hQ : ∀ a', Ev.Stay [88, 89, 90, 91, 17, 12] a a' → a'.eval (.tmp 17) = .int .i64 ((i - 1 : Nat) : Int) → a'.eval (.tmp 12) = .int .i64 ((j - 1 : Nat) : Int) → Q .normal a' (W)) : (Code.region id (Ru.ops 10 17) false).wp Try.prog Q a W := by
  refine wp_region_list ?_
  show wpList _ _ _ (_ :: _ :: _ :: _ :: _ :: _ :: []) _ _
  have k0 : Ev.Stay [88, 89, 90, 91, 17, 12] a a := Ev.Stay.refl [88, 89, 90, 91, 17, 12] a
  refine Ev.pv (N := 88) (v := .int .i64 (i : Int)) (W' := W) ?_ rfl rfl ?_
  · unfold execOp
    generalize a.eval = ev at *
    go_simp
  obtain ⟨a1, qa1⟩ : ∃ z_, z_ = a.put (some 88) (.int .i64 (i : Int)) := ⟨_, rfl⟩
  have k1 : Ev.Stay [88, 89, 90, 91, 17, 12] a a1 := by rw [qa1]; exact k0.put (by decide) _
  have e1_17 := Ev.oth qa1 (by decide) h17
  have e1_12 := Ev.oth qa1 (by decide) h12
  have e1_88 := Ev.sam qa1 (by rw [k0.1, hsz]; decide)
  rw [← qa1]
  clear qa1 
  refine Ev.pv (N := 89) (v := .int .i64 ((i - 1 : Nat) : Int)) (W' := W) ?_ rfl rfl ?_
  · have ec0 : a1.eval (.const (.int .i64 (1))) = .int .i64 (1) := rfl
    unfold execOp
    generalize a1.eval = ev at *
    (go_simp; try (rw [wr (by omega) (by omega)]; omega))
  obtain ⟨a2, qa2⟩ : ∃ z_, z_ = a1.put (some 89) (.int .i64 ((i - 1 : Nat) : Int)) := ⟨_, rfl⟩
  have k2 : Ev.Stay [88, 89, 90, 91, 17, 12] a a2 := by rw [qa2]; exact k1.put (by decide) _
  have e2_17 := Ev.oth qa2 (by decide) e1_17
  have e2_12 := Ev.oth qa2 (by decide) e1_12
  have e2_88 := Ev.oth qa2 (by decide) e1_88
  have e2_89 := Ev.sam qa2 (by rw [k1.1, hsz]; decide)
  rw [← qa2]
  clear qa2 e1_17 e1_12 e1_88
  clear e2_88
  refine Ev.pv (N := 90) (v := .int .i64 (j : Int)) (W' := W) ?_ rfl rfl ?_
  · unfold execOp
    generalize a2.eval = ev at *
    go_simp
  obtain ⟨a3, qa3⟩ : ∃ z_, z_ = a2.put (some 90) (.int .i64 (j : Int)) := ⟨_, rfl⟩
  have k3 : Ev.Stay [88, 89, 90, 91, 17, 12] a a3 := by rw [qa3]; exact k2.put (by decide) _
  have e3_17 := Ev.oth qa3 (by decide) e2_17
  have e3_12 := Ev.oth qa3 (by decide) e2_12
  have e3_89 := Ev.oth qa3 (by decide) e2_89
  have e3_90 := Ev.sam qa3 (by rw [k2.1, hsz]; decide)
  rw [← qa3]
  clear qa3 e2_17 e2_12 e2_89
  refine Ev.pv (N := 91) (v := .int .i64 ((j - 1 : Nat) : Int)) (W' := W) ?_ rfl rfl ?_
  · have ec0 : a3.eval (.const (.int .i64 (1))) = .int .i64 (1) := rfl
    unfold execOp
    generalize a3.eval = ev at *
    (go_simp; try (rw [wr (by omega) (by omega)]; omega))
  obtain ⟨a4, qa4⟩ : ∃ z_, z_ = a3.put (some 91) (.int .i64 ((j - 1 : Nat) : Int)) := ⟨_, rfl⟩
  have k4 : Ev.Stay [88, 89, 90, 91, 17, 12] a a4 := by rw [qa4]; exact k3.put (by decide) _
  have e4_17 := Ev.oth qa4 (by decide) e3_17
  have e4_12 := Ev.oth qa4 (by decide) e3_12
  have e4_89 := Ev.oth qa4 (by decide) e3_89
  have e4_90 := Ev.oth qa4 (by decide) e3_90
  have e4_91 := Ev.sam qa4 (by rw [k3.1, hsz]; decide)
  rw [← qa4]
  clear qa4 e3_17 e3_12 e3_89 e3_90
  clear e4_90
  refine Ev.pv (N := 17) (v := .int .i64 ((i - 1 : Nat) : Int)) (W' := W) ?_ rfl rfl ?_
  · unfold execOp
    generalize a4.eval = ev at *
    go_simp
  obtain ⟨a5, qa5⟩ : ∃ z_, z_ = a4.put (some 17) (.int .i64 ((i - 1 : Nat) : Int)) := ⟨_, rfl⟩
  have k5 : Ev.Stay [88, 89, 90, 91, 17, 12] a a5 := by rw [qa5]; exact k4.put (by decide) _
  have e5_12 := Ev.oth qa5 (by decide) e4_12
  have e5_89 := Ev.oth qa5 (by decide) e4_89
  have e5_91 := Ev.oth qa5 (by decide) e4_91
  have e5_17 := Ev.sam qa5 (by rw [k4.1, hsz]; decide)
  rw [← qa5]
  clear qa5 e4_17 e4_12 e4_89 e4_91
  refine Ev.pv (N := 12) (v := .int .i64 ((j - 1 : Nat) : Int)) (W' := W) ?_ rfl rfl ?_
  · unfold execOp
    generalize a5.eval = ev at *
    go_simp
  obtain ⟨a6, qa6⟩ : ∃ z_, z_ = a5.put (some 12) (.int .i64 ((j - 1 : Nat) : Int)) := ⟨_, rfl⟩
  have k6 : Ev.Stay [88, 89, 90, 91, 17, 12] a a6 := by rw [qa6]; exact k5.put (by decide) _
  have e6_89 := Ev.oth qa6 (by decide) e5_89
  have e6_91 := Ev.oth qa6 (by decide) e5_91
  have e6_17 := Ev.oth qa6 (by decide) e5_17
  have e6_12 := Ev.sam qa6 (by rw [k5.1, hsz]; decide)
  rw [← qa6]
  clear qa6 e5_12 e5_89 e5_91 e5_17
  exact hQ _ k6 e6_17 e6_12
set_option maxHeartbeats 2000000 in
theorem Rg.r15 {id : Nat} {Q : Exit → Act → World → Prop} {a : Act} {W : World} {ad1 ad2 : Addr} {i j c1 c2 : Nat} {la lb : List Int} {x y : Int}
    (hsz : a.tmps.size = 128) (hP : ∀ c a a' w, a'.defers = a.defers → Q (.panic c) a w → Q (.panic c) a' w)  (h1 : a.eval (.tmp 1) = .slice (some ad1) la.length c1) (h2 : a.eval (.tmp 2) = .slice (some ad2) lb.length c2) (h17 : a.eval (.tmp 17) = .int .i64 (i : Int)) (h12 : a.eval (.tmp 12) = .int .i64 (j : Int)) (hi : 0 < i) (hi2 : i ≤ la.length) (hj : 0 < j) (hj2 : j ≤ lb.length) (hla : la.length ≤ 1000) (hlb : lb.length ≤ 1000) (hx : W.drew.cell? (ad1.add (i - 1)) = some (.int .i64 x)) (hy : W.drew.cell? (ad2.add (j - 1)) = some (.int .i64 y))
    (hQ : ∀ a', Ev.Stay [68, 69, 70, 71, 72, 73, 74, 75, 76, 77, 78, 79] a a' → a'.eval (.tmp 68) = .bool (x == y) → Q .normal a' W.drew) : (Code.region id (Ru.ops 10 15) true).wp Try.prog Q a W := by
  have hops : Ru.ops 10 15 = List.toArray [_, _, _, _, _, _, _, _, _, _, _, _] := rfl
  refine start_ (S := fun w_ => w_.cell? (ad1.add (i - 1)) = some (.int .i64 x) ∧ w_.cell? (ad2.add (j - 1)) = some (.int .i64 y)) (ds := []) #[false, false, false, false, false, false, false, false, false, false, false, false] (by kernel_rfl) (n := 12) rfl rfl ?S0 (fun hHeld => ?_)
  case S0 => exact ⟨hx, hy⟩
  have k0 : Ev.Stay [68, 69, 70, 71, 72, 73, 74, 75, 76, 77, 78, 79] a a := Ev.Stay.refl [68, 69, 70, 71, 72, 73, 74, 75, 76, 77, 78, 79] a
  refine pure_ (i := 0) (N := some 69) (v := .slice (some ad1) la.length c1) #[true, false, false, false, false, false, false, false, false, false, false, false] (Rg.of hops Rg.at0) rfl (by kernel_rfl) (fun c _ _ h => hP c _ _ _ (by rfl) h) (Or.inl ⟨Ev.wanted rfl, fun w_ => ?_⟩) rfl ?_
  · unfold execOp
    generalize a.eval = ev at *
    go_simp
  obtain ⟨a1, qa1⟩ : ∃ z_, z_ = a.put (some 69) (.slice (some ad1) la.length c1) := ⟨_, rfl⟩
  have k1 : Ev.Stay [68, 69, 70, 71, 72, 73, 74, 75, 76, 77, 78, 79] a a1 := by rw [qa1]; exact k0.put (by decide) _
  have e1_1 := Ev.oth qa1 (by decide) h1
  have e1_2 := Ev.oth qa1 (by decide) h2
  have e1_17 := Ev.oth qa1 (by decide) h17
  have e1_12 := Ev.oth qa1 (by decide) h12
  have e1_69 := Ev.sam qa1 (by rw [k0.1, hsz]; decide)
  rw [← qa1]
  clear qa1 
  refine pure_ (i := 1) (N := some 70) (v := .int .i64 (i : Int)) #[true, true, false, false, false, false, false, false, false, false, false, false] (Rg.of hops (Rg.atS Rg.at0)) rfl (by kernel_rfl) (fun c _ _ h => hP c _ _ _ (by rfl) h) (Or.inl ⟨Ev.wanted rfl, fun w_ => ?_⟩) rfl ?_
  · unfold execOp
    generalize a1.eval = ev at *
    go_simp
  obtain ⟨a2, qa2⟩ : ∃ z_, z_ = a1.put (some 70) (.int .i64 (i : Int)) := ⟨_, rfl⟩
  have k2 : Ev.Stay [68, 69, 70, 71, 72, 73, 74, 75, 76, 77, 78, 79] a a2 := by rw [qa2]; exact k1.put (by decide) _
  have e2_1 := Ev.oth qa2 (by decide) e1_1
  have e2_2 := Ev.oth qa2 (by decide) e1_2
  have e2_17 := Ev.oth qa2 (by decide) e1_17
  have e2_12 := Ev.oth qa2 (by decide) e1_12
  have e2_69 := Ev.oth qa2 (by decide) e1_69
  have e2_70 := Ev.sam qa2 (by rw [k1.1, hsz]; decide)
  rw [← qa2]
  clear qa2 e1_1 e1_2 e1_17 e1_12 e1_69
  refine pure_ (i := 2) (N := some 71) (v := .int .i64 ((i - 1 : Nat) : Int)) #[true, true, true, false, false, false, false, false, false, false, false, false] (Rg.of hops (Rg.atS (Rg.atS Rg.at0))) rfl (by kernel_rfl) (fun c _ _ h => hP c _ _ _ (by rfl) h) (Or.inl ⟨Ev.wanted rfl, fun w_ => ?_⟩) rfl ?_
  · have ec0 : a2.eval (.const (.int .i64 (1))) = .int .i64 (1) := rfl
    unfold execOp
    generalize a2.eval = ev at *
    (go_simp; try (rw [wr (by omega) (by omega)]; omega))
  obtain ⟨a3, qa3⟩ : ∃ z_, z_ = a2.put (some 71) (.int .i64 ((i - 1 : Nat) : Int)) := ⟨_, rfl⟩
  have k3 : Ev.Stay [68, 69, 70, 71, 72, 73, 74, 75, 76, 77, 78, 79] a a3 := by rw [qa3]; exact k2.put (by decide) _
  have e3_1 := Ev.oth qa3 (by decide) e2_1
  have e3_2 := Ev.oth qa3 (by decide) e2_2
  have e3_17 := Ev.oth qa3 (by decide) e2_17
  have e3_12 := Ev.oth qa3 (by decide) e2_12
  have e3_69 := Ev.oth qa3 (by decide) e2_69
  have e3_70 := Ev.oth qa3 (by decide) e2_70
  have e3_71 := Ev.sam qa3 (by rw [k2.1, hsz]; decide)
  rw [← qa3]
  clear qa3 e2_1 e2_2 e2_17 e2_12 e2_69 e2_70
  clear e3_70
  refine pure_ (i := 3) (N := some 72) (v := .pointer (some (ad1.add (i - 1)))) #[true, true, true, true, false, false, false, false, false, false, false, false] (Rg.of hops (Rg.atS (Rg.atS (Rg.atS Rg.at0)))) rfl (by kernel_rfl) (fun c _ _ h => hP c _ _ _ (by rfl) h) (Or.inl ⟨Ev.wanted rfl, fun w_ => ?_⟩) rfl ?_
  · have lk_ : ((i - 1 : Nat) : Int) < (la.length : Int) := by omega
    have lk0_ : (0 : Int) ≤ ((i - 1 : Nat) : Int) := by omega
    unfold execOp
    generalize a3.eval = ev at *
    go_simp
  obtain ⟨a4, qa4⟩ : ∃ z_, z_ = a3.put (some 72) (.pointer (some (ad1.add (i - 1)))) := ⟨_, rfl⟩
  have k4 : Ev.Stay [68, 69, 70, 71, 72, 73, 74, 75, 76, 77, 78, 79] a a4 := by rw [qa4]; exact k3.put (by decide) _
  have e4_1 := Ev.oth qa4 (by decide) e3_1
  have e4_2 := Ev.oth qa4 (by decide) e3_2
  have e4_17 := Ev.oth qa4 (by decide) e3_17
  have e4_12 := Ev.oth qa4 (by decide) e3_12
  have e4_69 := Ev.oth qa4 (by decide) e3_69
  have e4_71 := Ev.oth qa4 (by decide) e3_71
  have e4_72 := Ev.sam qa4 (by rw [k3.1, hsz]; decide)
  rw [← qa4]
  clear qa4 e3_1 e3_2 e3_17 e3_12 e3_69 e3_71
  clear e4_69
  clear e4_71
  refine take_ (i := 4) (N := some 73) (v := .int .i64 (x)) #[true, true, true, true, true, false, false, false, false, false, false, false] (Rg.of hops (Rg.atS (Rg.atS (Rg.atS (Rg.atS Rg.at0))))) rfl (by kernel_rfl) (fun c _ _ h => hP c _ _ _ (by rfl) h) (Ev.loadW (Ev.wanted rfl) rfl e4_72 (fun w hw => Ev.load3 hw.1)) hHeld rfl ?_
  obtain ⟨a5, qa5⟩ : ∃ z_, z_ = a4.put (some 73) (.int .i64 (x)) := ⟨_, rfl⟩
  have k5 : Ev.Stay [68, 69, 70, 71, 72, 73, 74, 75, 76, 77, 78, 79] a a5 := by rw [qa5]; exact k4.put (by decide) _
  have e5_1 := Ev.oth qa5 (by decide) e4_1
  have e5_2 := Ev.oth qa5 (by decide) e4_2
  have e5_17 := Ev.oth qa5 (by decide) e4_17
  have e5_12 := Ev.oth qa5 (by decide) e4_12
  have e5_72 := Ev.oth qa5 (by decide) e4_72
  have e5_73 := Ev.sam qa5 (by rw [k4.1, hsz]; decide)
  rw [← qa5]
  clear qa5 e4_1 e4_2 e4_17 e4_12 e4_72
  clear e5_72
  refine pure_ (i := 5) (N := some 74) (v := .slice (some ad2) lb.length c2) #[true, true, true, true, true, true, false, false, false, false, false, false] (Rg.of hops (Rg.atS (Rg.atS (Rg.atS (Rg.atS (Rg.atS Rg.at0)))))) rfl (by kernel_rfl) (fun c _ _ h => hP c _ _ _ (by rfl) h) (Or.inl ⟨Ev.wanted rfl, fun w_ => ?_⟩) rfl ?_
  · unfold execOp
    generalize a5.eval = ev at *
    go_simp
  obtain ⟨a6, qa6⟩ : ∃ z_, z_ = a5.put (some 74) (.slice (some ad2) lb.length c2) := ⟨_, rfl⟩
  have k6 : Ev.Stay [68, 69, 70, 71, 72, 73, 74, 75, 76, 77, 78, 79] a a6 := by rw [qa6]; exact k5.put (by decide) _
  have e6_1 := Ev.oth qa6 (by decide) e5_1
  have e6_2 := Ev.oth qa6 (by decide) e5_2
  have e6_17 := Ev.oth qa6 (by decide) e5_17
  have e6_12 := Ev.oth qa6 (by decide) e5_12
  have e6_73 := Ev.oth qa6 (by decide) e5_73
  have e6_74 := Ev.sam qa6 (by rw [k5.1, hsz]; decide)
  rw [← qa6]
  clear qa6 e5_1 e5_2 e5_17 e5_12 e5_73
  refine pure_ (i := 6) (N := some 75) (v := .int .i64 (j : Int)) #[true, true, true, true, true, true, true, false, false, false, false, false] (Rg.of hops (Rg.atS (Rg.atS (Rg.atS (Rg.atS (Rg.atS (Rg.atS Rg.at0))))))) rfl (by kernel_rfl) (fun c _ _ h => hP c _ _ _ (by rfl) h) (Or.inl ⟨Ev.wanted rfl, fun w_ => ?_⟩) rfl ?_
  · unfold execOp
    generalize a6.eval = ev at *
    go_simp
  obtain ⟨a7, qa7⟩ : ∃ z_, z_ = a6.put (some 75) (.int .i64 (j : Int)) := ⟨_, rfl⟩
  have k7 : Ev.Stay [68, 69, 70, 71, 72, 73, 74, 75, 76, 77, 78, 79] a a7 := by rw [qa7]; exact k6.put (by decide) _
  have e7_1 := Ev.oth qa7 (by decide) e6_1
  have e7_2 := Ev.oth qa7 (by decide) e6_2
  have e7_17 := Ev.oth qa7 (by decide) e6_17
  have e7_12 := Ev.oth qa7 (by decide) e6_12
  have e7_73 := Ev.oth qa7 (by decide) e6_73
  have e7_74 := Ev.oth qa7 (by decide) e6_74
  have e7_75 := Ev.sam qa7 (by rw [k6.1, hsz]; decide)
  rw [← qa7]
  clear qa7 e6_1 e6_2 e6_17 e6_12 e6_73 e6_74
  refine pure_ (i := 7) (N := some 76) (v := .int .i64 ((j - 1 : Nat) : Int)) #[true, true, true, true, true, true, true, true, false, false, false, false] (Rg.of hops (Rg.atS (Rg.atS (Rg.atS (Rg.atS (Rg.atS (Rg.atS (Rg.atS Rg.at0)))))))) rfl (by kernel_rfl) (fun c _ _ h => hP c _ _ _ (by rfl) h) (Or.inl ⟨Ev.wanted rfl, fun w_ => ?_⟩) rfl ?_
  · have ec0 : a7.eval (.const (.int .i64 (1))) = .int .i64 (1) := rfl
    unfold execOp
    generalize a7.eval = ev at *
    (go_simp; try (rw [wr (by omega) (by omega)]; omega))
  obtain ⟨a8, qa8⟩ : ∃ z_, z_ = a7.put (some 76) (.int .i64 ((j - 1 : Nat) : Int)) := ⟨_, rfl⟩
  have k8 : Ev.Stay [68, 69, 70, 71, 72, 73, 74, 75, 76, 77, 78, 79] a a8 := by rw [qa8]; exact k7.put (by decide) _
  have e8_1 := Ev.oth qa8 (by decide) e7_1
  have e8_2 := Ev.oth qa8 (by decide) e7_2
  have e8_17 := Ev.oth qa8 (by decide) e7_17
  have e8_12 := Ev.oth qa8 (by decide) e7_12
  have e8_73 := Ev.oth qa8 (by decide) e7_73
  have e8_74 := Ev.oth qa8 (by decide) e7_74
  have e8_75 := Ev.oth qa8 (by decide) e7_75
  have e8_76 := Ev.sam qa8 (by rw [k7.1, hsz]; decide)
  rw [← qa8]
  clear qa8 e7_1 e7_2 e7_17 e7_12 e7_73 e7_74 e7_75
  clear e8_75
  refine pure_ (i := 8) (N := some 77) (v := .pointer (some (ad2.add (j - 1)))) #[true, true, true, true, true, true, true, true, true, false, false, false] (Rg.of hops (Rg.atS (Rg.atS (Rg.atS (Rg.atS (Rg.atS (Rg.atS (Rg.atS (Rg.atS Rg.at0))))))))) rfl (by kernel_rfl) (fun c _ _ h => hP c _ _ _ (by rfl) h) (Or.inl ⟨Ev.wanted rfl, fun w_ => ?_⟩) rfl ?_
  · have lk_ : ((j - 1 : Nat) : Int) < (lb.length : Int) := by omega
    have lk0_ : (0 : Int) ≤ ((j - 1 : Nat) : Int) := by omega
    unfold execOp
    generalize a8.eval = ev at *
    go_simp
  obtain ⟨a9, qa9⟩ : ∃ z_, z_ = a8.put (some 77) (.pointer (some (ad2.add (j - 1)))) := ⟨_, rfl⟩
  have k9 : Ev.Stay [68, 69, 70, 71, 72, 73, 74, 75, 76, 77, 78, 79] a a9 := by rw [qa9]; exact k8.put (by decide) _
  have e9_1 := Ev.oth qa9 (by decide) e8_1
  have e9_2 := Ev.oth qa9 (by decide) e8_2
  have e9_17 := Ev.oth qa9 (by decide) e8_17
  have e9_12 := Ev.oth qa9 (by decide) e8_12
  have e9_73 := Ev.oth qa9 (by decide) e8_73
  have e9_74 := Ev.oth qa9 (by decide) e8_74
  have e9_76 := Ev.oth qa9 (by decide) e8_76
  have e9_77 := Ev.sam qa9 (by rw [k8.1, hsz]; decide)
  rw [← qa9]
  clear qa9 e8_1 e8_2 e8_17 e8_12 e8_73 e8_74 e8_76
  clear e9_74
  clear e9_76
  refine take_ (i := 9) (N := some 78) (v := .int .i64 (y)) #[true, true, true, true, true, true, true, true, true, true, false, false] (Rg.of hops (Rg.atS (Rg.atS (Rg.atS (Rg.atS (Rg.atS (Rg.atS (Rg.atS (Rg.atS (Rg.atS Rg.at0)))))))))) rfl (by kernel_rfl) (fun c _ _ h => hP c _ _ _ (by rfl) h) (Ev.loadW (Ev.wanted rfl) rfl e9_77 (fun w hw => Ev.load3 hw.2)) hHeld rfl ?_
  obtain ⟨a10, qa10⟩ : ∃ z_, z_ = a9.put (some 78) (.int .i64 (y)) := ⟨_, rfl⟩
  have k10 : Ev.Stay [68, 69, 70, 71, 72, 73, 74, 75, 76, 77, 78, 79] a a10 := by rw [qa10]; exact k9.put (by decide) _
  have e10_1 := Ev.oth qa10 (by decide) e9_1
  have e10_2 := Ev.oth qa10 (by decide) e9_2
  have e10_17 := Ev.oth qa10 (by decide) e9_17
  have e10_12 := Ev.oth qa10 (by decide) e9_12
  have e10_73 := Ev.oth qa10 (by decide) e9_73
  have e10_77 := Ev.oth qa10 (by decide) e9_77
  have e10_78 := Ev.sam qa10 (by rw [k9.1, hsz]; decide)
  rw [← qa10]
  clear qa10 e9_1 e9_2 e9_17 e9_12 e9_73 e9_77
  clear e10_77
  refine pure_ (i := 10) (N := some 79) (v := .bool (x == y)) #[true, true, true, true, true, true, true, true, true, true, true, false] (Rg.of hops (Rg.atS (Rg.atS (Rg.atS (Rg.atS (Rg.atS (Rg.atS (Rg.atS (Rg.atS (Rg.atS (Rg.atS Rg.at0))))))))))) rfl (by kernel_rfl) (fun c _ _ h => hP c _ _ _ (by rfl) h) (Or.inl ⟨Ev.wanted rfl, fun w_ => ?_⟩) rfl ?_
  · unfold execOp
    generalize a10.eval = ev at *
    go_simp
  obtain ⟨a11, qa11⟩ : ∃ z_, z_ = a10.put (some 79) (.bool (x == y)) := ⟨_, rfl⟩
  have k11 : Ev.Stay [68, 69, 70, 71, 72, 73, 74, 75, 76, 77, 78, 79] a a11 := by rw [qa11]; exact k10.put (by decide) _
  have e11_1 := Ev.oth qa11 (by decide) e10_1
  have e11_2 := Ev.oth qa11 (by decide) e10_2
  have e11_17 := Ev.oth qa11 (by decide) e10_17
  have e11_12 := Ev.oth qa11 (by decide) e10_12
  have e11_73 := Ev.oth qa11 (by decide) e10_73
  have e11_78 := Ev.oth qa11 (by decide) e10_78
  have e11_79 := Ev.sam qa11 (by rw [k10.1, hsz]; decide)
  rw [← qa11]
  clear qa11 e10_1 e10_2 e10_17 e10_12 e10_73 e10_78
  clear e11_73
  clear e11_78
  refine pure_ (i := 11) (N := some 68) (v := .bool (x == y)) #[true, true, true, true, true, true, true, true, true, true, true, true] (Rg.of hops (Rg.atS (Rg.atS (Rg.atS (Rg.atS (Rg.atS (Rg.atS (Rg.atS (Rg.atS (Rg.atS (Rg.atS (Rg.atS Rg.at0)))))))))))) rfl (by kernel_rfl) (fun c _ _ h => hP c _ _ _ (by rfl) h) (Or.inl ⟨Ev.wanted rfl, fun w_ => ?_⟩) rfl ?_
  · unfold execOp
    generalize a11.eval = ev at *
    go_simp
  obtain ⟨a12, qa12⟩ : ∃ z_, z_ = a11.put (some 68) (.bool (x == y)) := ⟨_, rfl⟩
  have k12 : Ev.Stay [68, 69, 70, 71, 72, 73, 74, 75, 76, 77, 78, 79] a a12 := by rw [qa12]; exact k11.put (by decide) _
  have e12_1 := Ev.oth qa12 (by decide) e11_1
  have e12_2 := Ev.oth qa12 (by decide) e11_2
  have e12_17 := Ev.oth qa12 (by decide) e11_17
  have e12_12 := Ev.oth qa12 (by decide) e11_12
  have e12_79 := Ev.oth qa12 (by decide) e11_79
  have e12_68 := Ev.sam qa12 (by rw [k11.1, hsz]; decide)
  rw [← qa12]
  clear qa12 e11_1 e11_2 e11_17 e11_12 e11_79
  refine done_ (by kernel_rfl) ?_
  exact hQ _ k12 e12_68
set_option maxHeartbeats 2000000 in
theorem Rg.r18 {id : Nat} {Q : Exit → Act → World → Prop} {a : Act} {W : World} {gl nl cpl ra ca rb cb m i f j : Nat} {x y : Int}
    (hsz : a.tmps.size = 128) (hP : ∀ c a a' w, a'.defers = a.defers → Q (.panic c) a w → Q (.panic c) a' w)  (h16 : a.eval (.tmp 16) = .slice (some ⟨gl, 0, none⟩) nl cpl) (h17 : a.eval (.tmp 17) = .int .i64 (i : Int)) (h14 : a.eval (.tmp 14) = .int .i64 (f : Int)) (h12 : a.eval (.tmp 12) = .int .i64 (j : Int)) (hf : f < i) (hi2 : i ≤ 1000) (hnl : i - f < nl) (hj : 0 < j) (hj2 : j ≤ m) (hm : m ≤ 1000) (hr : W.drew.cell? ⟨gl, i - 1 - f, none⟩ = some (.slice (some ⟨ra, 0, none⟩) (m + 1) ca) ∧ W.drew.cell? ⟨gl, i - f, none⟩ = some (.slice (some ⟨rb, 0, none⟩) (m + 1) cb)) (hx : W.drew.cell? ⟨ra, j, none⟩ = some (.int .i64 x)) (hy : W.drew.cell? ⟨rb, j - 1, none⟩ = some (.int .i64 y))
    (hQ : ∀ a', Ev.Stay [92, 93, 94, 95, 96, 97, 98, 99, 100, 101, 102, 103, 104, 105, 106, 107, 108, 109, 110, 111, 112, 113] a a' → a'.eval (.tmp 92) = .bool (decide (y ≤ x)) → Q .normal a' W.drew) : (Code.region id (Ru.ops 10 18) true).wp Try.prog Q a W := by
  have hops : Ru.ops 10 18 = List.toArray [_, _, _, _, _, _, _, _, _, _, _, _, _, _, _, _, _, _, _, _, _, _] := rfl
  refine start_ (S := fun w_ => (w_.cell? ⟨gl, i - 1 - f, none⟩ = some (.slice (some ⟨ra, 0, none⟩) (m + 1) ca) ∧ w_.cell? ⟨gl, i - f, none⟩ = some (.slice (some ⟨rb, 0, none⟩) (m + 1) cb)) ∧ w_.cell? ⟨ra, j, none⟩ = some (.int .i64 x) ∧ w_.cell? ⟨rb, j - 1, none⟩ = some (.int .i64 y)) (ds := []) #[false, false, false, false, false, false, false, false, false, false, false, false, false, false, false, false, false, false, false, false, false, false] (by kernel_rfl) (n := 22) rfl rfl ?S0 (fun hHeld => ?_)
  case S0 => exact ⟨hr, hx, hy⟩
  have k0 : Ev.Stay [92, 93, 94, 95, 96, 97, 98, 99, 100, 101, 102, 103, 104, 105, 106, 107, 108, 109, 110, 111, 112, 113] a a := Ev.Stay.refl [92, 93, 94, 95, 96, 97, 98, 99, 100, 101, 102, 103, 104, 105, 106, 107, 108, 109, 110, 111, 112, 113] a
  refine pure_ (i := 0) (N := some 93) (v := .slice (some ⟨gl, 0, none⟩) nl cpl) #[true, false, false, false, false, false, false, false, false, false, false, false, false, false, false, false, false, false, false, false, false, false] (Rg.of hops Rg.at0) rfl (by kernel_rfl) (fun c _ _ h => hP c _ _ _ (by rfl) h) (Or.inl ⟨Ev.wanted rfl, fun w_ => ?_⟩) rfl ?_
  · unfold execOp
    generalize a.eval = ev at *
    go_simp
  obtain ⟨a1, qa1⟩ : ∃ z_, z_ = a.put (some 93) (.slice (some ⟨gl, 0, none⟩) nl cpl) := ⟨_, rfl⟩
  have k1 : Ev.Stay [92, 93, 94, 95, 96, 97, 98, 99, 100, 101, 102, 103, 104, 105, 106, 107, 108, 109, 110, 111, 112, 113] a a1 := by rw [qa1]; exact k0.put (by decide) _
  have e1_16 := Ev.oth qa1 (by decide) h16
  have e1_17 := Ev.oth qa1 (by decide) h17
  have e1_14 := Ev.oth qa1 (by decide) h14
  have e1_12 := Ev.oth qa1 (by decide) h12
  have e1_93 := Ev.sam qa1 (by rw [k0.1, hsz]; decide)
  rw [← qa1]
  clear qa1 
  refine pure_ (i := 1) (N := some 94) (v := .int .i64 (i : Int)) #[true, true, false, false, false, false, false, false, false, false, false, false, false, false, false, false, false, false, false, false, false, false] (Rg.of hops (Rg.atS Rg.at0)) rfl (by kernel_rfl) (fun c _ _ h => hP c _ _ _ (by rfl) h) (Or.inl ⟨Ev.wanted rfl, fun w_ => ?_⟩) rfl ?_
  · unfold execOp
    generalize a1.eval = ev at *
    go_simp
  obtain ⟨a2, qa2⟩ : ∃ z_, z_ = a1.put (some 94) (.int .i64 (i : Int)) := ⟨_, rfl⟩
  have k2 : Ev.Stay [92, 93, 94, 95, 96, 97, 98, 99, 100, 101, 102, 103, 104, 105, 106, 107, 108, 109, 110, 111, 112, 113] a a2 := by rw [qa2]; exact k1.put (by decide) _
  have e2_16 := Ev.oth qa2 (by decide) e1_16
  have e2_17 := Ev.oth qa2 (by decide) e1_17
  have e2_14 := Ev.oth qa2 (by decide) e1_14
  have e2_12 := Ev.oth qa2 (by decide) e1_12
  have e2_93 := Ev.oth qa2 (by decide) e1_93
  have e2_94 := Ev.sam qa2 (by rw [k1.1, hsz]; decide)
  rw [← qa2]
  clear qa2 e1_16 e1_17 e1_14 e1_12 e1_93
  refine pure_ (i := 2) (N := some 95) (v := .int .i64 ((i - 1 : Nat) : Int)) #[true, true, true, false, false, false, false, false, false, false, false, false, false, false, false, false, false, false, false, false, false, false] (Rg.of hops (Rg.atS (Rg.atS Rg.at0))) rfl (by kernel_rfl) (fun c _ _ h => hP c _ _ _ (by rfl) h) (Or.inl ⟨Ev.wanted rfl, fun w_ => ?_⟩) rfl ?_
  · have ec0 : a2.eval (.const (.int .i64 (1))) = .int .i64 (1) := rfl
    unfold execOp
    generalize a2.eval = ev at *
    (go_simp; try (rw [wr (by omega) (by omega)]; omega))
  obtain ⟨a3, qa3⟩ : ∃ z_, z_ = a2.put (some 95) (.int .i64 ((i - 1 : Nat) : Int)) := ⟨_, rfl⟩
  have k3 : Ev.Stay [92, 93, 94, 95, 96, 97, 98, 99, 100, 101, 102, 103, 104, 105, 106, 107, 108, 109, 110, 111, 112, 113] a a3 := by rw [qa3]; exact k2.put (by decide) _
  have e3_16 := Ev.oth qa3 (by decide) e2_16
  have e3_17 := Ev.oth qa3 (by decide) e2_17
  have e3_14 := Ev.oth qa3 (by decide) e2_14
  have e3_12 := Ev.oth qa3 (by decide) e2_12
  have e3_93 := Ev.oth qa3 (by decide) e2_93
  have e3_94 := Ev.oth qa3 (by decide) e2_94
  have e3_95 := Ev.sam qa3 (by rw [k2.1, hsz]; decide)
  rw [← qa3]
  clear qa3 e2_16 e2_17 e2_14 e2_12 e2_93 e2_94
  clear e3_94
  refine pure_ (i := 3) (N := some 96) (v := .int .i64 (f : Int)) #[true, true, true, true, false, false, false, false, false, false, false, false, false, false, false, false, false, false, false, false, false, false] (Rg.of hops (Rg.atS (Rg.atS (Rg.atS Rg.at0)))) rfl (by kernel_rfl) (fun c _ _ h => hP c _ _ _ (by rfl) h) (Or.inl ⟨Ev.wanted rfl, fun w_ => ?_⟩) rfl ?_
  · unfold execOp
    generalize a3.eval = ev at *
    go_simp
  obtain ⟨a4, qa4⟩ : ∃ z_, z_ = a3.put (some 96) (.int .i64 (f : Int)) := ⟨_, rfl⟩
  have k4 : Ev.Stay [92, 93, 94, 95, 96, 97, 98, 99, 100, 101, 102, 103, 104, 105, 106, 107, 108, 109, 110, 111, 112, 113] a a4 := by rw [qa4]; exact k3.put (by decide) _
  have e4_16 := Ev.oth qa4 (by decide) e3_16
  have e4_17 := Ev.oth qa4 (by decide) e3_17
  have e4_14 := Ev.oth qa4 (by decide) e3_14
  have e4_12 := Ev.oth qa4 (by decide) e3_12
  have e4_93 := Ev.oth qa4 (by decide) e3_93
  have e4_95 := Ev.oth qa4 (by decide) e3_95
  have e4_96 := Ev.sam qa4 (by rw [k3.1, hsz]; decide)
  rw [← qa4]
  clear qa4 e3_16 e3_17 e3_14 e3_12 e3_93 e3_95
  refine pure_ (i := 4) (N := some 97) (v := .int .i64 ((i - 1 - f : Nat) : Int)) #[true, true, true, true, true, false, false, false, false, false, false, false, false, false, false, false, false, false, false, false, false, false] (Rg.of hops (Rg.atS (Rg.atS (Rg.atS (Rg.atS Rg.at0))))) rfl (by kernel_rfl) (fun c _ _ h => hP c _ _ _ (by rfl) h) (Or.inl ⟨Ev.wanted rfl, fun w_ => ?_⟩) rfl ?_
  · have ec0 : a4.eval (.const (.int .i64 (1))) = .int .i64 (1) := rfl
    unfold execOp
    generalize a4.eval = ev at *
    (go_simp; try (rw [wr (by omega) (by omega)]; omega))
  obtain ⟨a5, qa5⟩ : ∃ z_, z_ = a4.put (some 97) (.int .i64 ((i - 1 - f : Nat) : Int)) := ⟨_, rfl⟩
  have k5 : Ev.Stay [92, 93, 94, 95, 96, 97, 98, 99, 100, 101, 102, 103, 104, 105, 106, 107, 108, 109, 110, 111, 112, 113] a a5 := by rw [qa5]; exact k4.put (by decide) _
  have e5_16 := Ev.oth qa5 (by decide) e4_16
  have e5_17 := Ev.oth qa5 (by decide) e4_17
  have e5_14 := Ev.oth qa5 (by decide) e4_14
  have e5_12 := Ev.oth qa5 (by decide) e4_12
  have e5_93 := Ev.oth qa5 (by decide) e4_93
  have e5_95 := Ev.oth qa5 (by decide) e4_95
  have e5_96 := Ev.oth qa5 (by decide) e4_96
  have e5_97 := Ev.sam qa5 (by rw [k4.1, hsz]; decide)
  rw [← qa5]
  clear qa5 e4_16 e4_17 e4_14 e4_12 e4_93 e4_95 e4_96
  clear e5_95
  clear e5_96
  refine pure_ (i := 5) (N := some 98) (v := .pointer (some ⟨gl, i - 1 - f, none⟩)) #[true, true, true, true, true, true, false, false, false, false, false, false, false, false, false, false, false, false, false, false, false, false] (Rg.of hops (Rg.atS (Rg.atS (Rg.atS (Rg.atS (Rg.atS Rg.at0)))))) rfl (by kernel_rfl) (fun c _ _ h => hP c _ _ _ (by rfl) h) (Or.inl ⟨Ev.wanted rfl, fun w_ => ?_⟩) rfl ?_
  · have lk_ : ((i - 1 - f : Nat) : Int) < (nl : Int) := by omega
    have lk0_ : (0 : Int) ≤ ((i - 1 - f : Nat) : Int) := by omega
    unfold execOp
    generalize a5.eval = ev at *
    go_simp
  obtain ⟨a6, qa6⟩ : ∃ z_, z_ = a5.put (some 98) (.pointer (some ⟨gl, i - 1 - f, none⟩)) := ⟨_, rfl⟩
  have k6 : Ev.Stay [92, 93, 94, 95, 96, 97, 98, 99, 100, 101, 102, 103, 104, 105, 106, 107, 108, 109, 110, 111, 112, 113] a a6 := by rw [qa6]; exact k5.put (by decide) _
  have e6_16 := Ev.oth qa6 (by decide) e5_16
  have e6_17 := Ev.oth qa6 (by decide) e5_17
  have e6_14 := Ev.oth qa6 (by decide) e5_14
  have e6_12 := Ev.oth qa6 (by decide) e5_12
  have e6_93 := Ev.oth qa6 (by decide) e5_93
  have e6_97 := Ev.oth qa6 (by decide) e5_97
  have e6_98 := Ev.sam qa6 (by rw [k5.1, hsz]; decide)
  rw [← qa6]
  clear qa6 e5_16 e5_17 e5_14 e5_12 e5_93 e5_97
  clear e6_93
  clear e6_97
  refine take_ (i := 6) (N := some 99) (v := .slice (some ⟨ra, 0, none⟩) (m + 1) ca) #[true, true, true, true, true, true, true, false, false, false, false, false, false, false, false, false, false, false, false, false, false, false] (Rg.of hops (Rg.atS (Rg.atS (Rg.atS (Rg.atS (Rg.atS (Rg.atS Rg.at0))))))) rfl (by kernel_rfl) (fun c _ _ h => hP c _ _ _ (by rfl) h) (Ev.loadW (Ev.wanted rfl) rfl e6_98 (fun w hw => Ev.load56 hw.1.1)) hHeld rfl ?_
  obtain ⟨a7, qa7⟩ : ∃ z_, z_ = a6.put (some 99) (.slice (some ⟨ra, 0, none⟩) (m + 1) ca) := ⟨_, rfl⟩
  have k7 : Ev.Stay [92, 93, 94, 95, 96, 97, 98, 99, 100, 101, 102, 103, 104, 105, 106, 107, 108, 109, 110, 111, 112, 113] a a7 := by rw [qa7]; exact k6.put (by decide) _
  have e7_16 := Ev.oth qa7 (by decide) e6_16
  have e7_17 := Ev.oth qa7 (by decide) e6_17
  have e7_14 := Ev.oth qa7 (by decide) e6_14
  have e7_12 := Ev.oth qa7 (by decide) e6_12
  have e7_98 := Ev.oth qa7 (by decide) e6_98
  have e7_99 := Ev.sam qa7 (by rw [k6.1, hsz]; decide)
  rw [← qa7]
  clear qa7 e6_16 e6_17 e6_14 e6_12 e6_98
  clear e7_98
  refine pure_ (i := 7) (N := some 100) (v := .int .i64 (j : Int)) #[true, true, true, true, true, true, true, true, false, false, false, false, false, false, false, false, false, false, false, false, false, false] (Rg.of hops (Rg.atS (Rg.atS (Rg.atS (Rg.atS (Rg.atS (Rg.atS (Rg.atS Rg.at0)))))))) rfl (by kernel_rfl) (fun c _ _ h => hP c _ _ _ (by rfl) h) (Or.inl ⟨Ev.wanted rfl, fun w_ => ?_⟩) rfl ?_
  · unfold execOp
    generalize a7.eval = ev at *
    go_simp
  obtain ⟨a8, qa8⟩ : ∃ z_, z_ = a7.put (some 100) (.int .i64 (j : Int)) := ⟨_, rfl⟩
  have k8 : Ev.Stay [92, 93, 94, 95, 96, 97, 98, 99, 100, 101, 102, 103, 104, 105, 106, 107, 108, 109, 110, 111, 112, 113] a a8 := by rw [qa8]; exact k7.put (by decide) _
  have e8_16 := Ev.oth qa8 (by decide) e7_16
  have e8_17 := Ev.oth qa8 (by decide) e7_17
  have e8_14 := Ev.oth qa8 (by decide) e7_14
  have e8_12 := Ev.oth qa8 (by decide) e7_12
  have e8_99 := Ev.oth qa8 (by decide) e7_99
  have e8_100 := Ev.sam qa8 (by rw [k7.1, hsz]; decide)
  rw [← qa8]
  clear qa8 e7_16 e7_17 e7_14 e7_12 e7_99
  refine pure_ (i := 8) (N := some 101) (v := .pointer (some ⟨ra, j, none⟩)) #[true, true, true, true, true, true, true, true, true, false, false, false, false, false, false, false, false, false, false, false, false, false] (Rg.of hops (Rg.atS (Rg.atS (Rg.atS (Rg.atS (Rg.atS (Rg.atS (Rg.atS (Rg.atS Rg.at0))))))))) rfl (by kernel_rfl) (fun c _ _ h => hP c _ _ _ (by rfl) h) (Or.inl ⟨Ev.wanted rfl, fun w_ => ?_⟩) rfl ?_
  · have lk_ : (j : Int) < (m : Int) + 1 := by omega
    have lk0_ : (0 : Int) ≤ (j : Int) := by omega
    unfold execOp
    generalize a8.eval = ev at *
    go_simp
  obtain ⟨a9, qa9⟩ : ∃ z_, z_ = a8.put (some 101) (.pointer (some ⟨ra, j, none⟩)) := ⟨_, rfl⟩
  have k9 : Ev.Stay [92, 93, 94, 95, 96, 97, 98, 99, 100, 101, 102, 103, 104, 105, 106, 107, 108, 109, 110, 111, 112, 113] a a9 := by rw [qa9]; exact k8.put (by decide) _
  have e9_16 := Ev.oth qa9 (by decide) e8_16
  have e9_17 := Ev.oth qa9 (by decide) e8_17
  have e9_14 := Ev.oth qa9 (by decide) e8_14
  have e9_12 := Ev.oth qa9 (by decide) e8_12
  have e9_99 := Ev.oth qa9 (by decide) e8_99
  have e9_100 := Ev.oth qa9 (by decide) e8_100
  have e9_101 := Ev.sam qa9 (by rw [k8.1, hsz]; decide)
  rw [← qa9]
  clear qa9 e8_16 e8_17 e8_14 e8_12 e8_99 e8_100
  clear e9_99
  clear e9_100
  refine take_ (i := 9) (N := some 102) (v := .int .i64 (x)) #[true, true, true, true, true, true, true, true, true, true, false, false, false, false, false, false, false, false, false, false, false, false] (Rg.of hops (Rg.atS (Rg.atS (Rg.atS (Rg.atS (Rg.atS (Rg.atS (Rg.atS (Rg.atS (Rg.atS Rg.at0)))))))))) rfl (by kernel_rfl) (fun c _ _ h => hP c _ _ _ (by rfl) h) (Ev.loadW (Ev.wanted rfl) rfl e9_101 (fun w hw => Ev.load3 hw.2.1)) hHeld rfl ?_
  obtain ⟨a10, qa10⟩ : ∃ z_, z_ = a9.put (some 102) (.int .i64 (x)) := ⟨_, rfl⟩
  have k10 : Ev.Stay [92, 93, 94, 95, 96, 97, 98, 99, 100, 101, 102, 103, 104, 105, 106, 107, 108, 109, 110, 111, 112, 113] a a10 := by rw [qa10]; exact k9.put (by decide) _
  have e10_16 := Ev.oth qa10 (by decide) e9_16
  have e10_17 := Ev.oth qa10 (by decide) e9_17
  have e10_14 := Ev.oth qa10 (by decide) e9_14
  have e10_12 := Ev.oth qa10 (by decide) e9_12
  have e10_101 := Ev.oth qa10 (by decide) e9_101
  have e10_102 := Ev.sam qa10 (by rw [k9.1, hsz]; decide)
  rw [← qa10]
  clear qa10 e9_16 e9_17 e9_14 e9_12 e9_101
  clear e10_101
  refine pure_ (i := 10) (N := some 103) (v := .slice (some ⟨gl, 0, none⟩) nl cpl) #[true, true, true, true, true, true, true, true, true, true, true, false, false, false, false, false, false, false, false, false, false, false] (Rg.of hops (Rg.atS (Rg.atS (Rg.atS (Rg.atS (Rg.atS (Rg.atS (Rg.atS (Rg.atS (Rg.atS (Rg.atS Rg.at0))))))))))) rfl (by kernel_rfl) (fun c _ _ h => hP c _ _ _ (by rfl) h) (Or.inl ⟨Ev.wanted rfl, fun w_ => ?_⟩) rfl ?_
  · unfold execOp
    generalize a10.eval = ev at *
    go_simp
  obtain ⟨a11, qa11⟩ : ∃ z_, z_ = a10.put (some 103) (.slice (some ⟨gl, 0, none⟩) nl cpl) := ⟨_, rfl⟩
  have k11 : Ev.Stay [92, 93, 94, 95, 96, 97, 98, 99, 100, 101, 102, 103, 104, 105, 106, 107, 108, 109, 110, 111, 112, 113] a a11 := by rw [qa11]; exact k10.put (by decide) _
  have e11_16 := Ev.oth qa11 (by decide) e10_16
  have e11_17 := Ev.oth qa11 (by decide) e10_17
  have e11_14 := Ev.oth qa11 (by decide) e10_14
  have e11_12 := Ev.oth qa11 (by decide) e10_12
  have e11_102 := Ev.oth qa11 (by decide) e10_102
  have e11_103 := Ev.sam qa11 (by rw [k10.1, hsz]; decide)
  rw [← qa11]
  clear qa11 e10_16 e10_17 e10_14 e10_12 e10_102
  refine pure_ (i := 11) (N := some 104) (v := .int .i64 (i : Int)) #[true, true, true, true, true, true, true, true, true, true, true, true, false, false, false, false, false, false, false, false, false, false] (Rg.of hops (Rg.atS (Rg.atS (Rg.atS (Rg.atS (Rg.atS (Rg.atS (Rg.atS (Rg.atS (Rg.atS (Rg.atS (Rg.atS Rg.at0)))))))))))) rfl (by kernel_rfl) (fun c _ _ h => hP c _ _ _ (by rfl) h) (Or.inl ⟨Ev.wanted rfl, fun w_ => ?_⟩) rfl ?_
  · unfold execOp
    generalize a11.eval = ev at *
    go_simp
  obtain ⟨a12, qa12⟩ : ∃ z_, z_ = a11.put (some 104) (.int .i64 (i : Int)) := ⟨_, rfl⟩
  have k12 : Ev.Stay [92, 93, 94, 95, 96, 97, 98, 99, 100, 101, 102, 103, 104, 105, 106, 107, 108, 109, 110, 111, 112, 113] a a12 := by rw [qa12]; exact k11.put (by decide) _
  have e12_16 := Ev.oth qa12 (by decide) e11_16
  have e12_17 := Ev.oth qa12 (by decide) e11_17
  have e12_14 := Ev.oth qa12 (by decide) e11_14
  have e12_12 := Ev.oth qa12 (by decide) e11_12
  have e12_102 := Ev.oth qa12 (by decide) e11_102
  have e12_103 := Ev.oth qa12 (by decide) e11_103
  have e12_104 := Ev.sam qa12 (by rw [k11.1, hsz]; decide)
  rw [← qa12]
  clear qa12 e11_16 e11_17 e11_14 e11_12 e11_102 e11_103
  refine pure_ (i := 12) (N := some 105) (v := .int .i64 (f : Int)) #[true, true, true, true, true, true, true, true, true, true, true, true, true, false, false, false, false, false, false, false, false, false] (Rg.of hops (Rg.atS (Rg.atS (Rg.atS (Rg.atS (Rg.atS (Rg.atS (Rg.atS (Rg.atS (Rg.atS (Rg.atS (Rg.atS (Rg.atS Rg.at0))))))))))))) rfl (by kernel_rfl) (fun c _ _ h => hP c _ _ _ (by rfl) h) (Or.inl ⟨Ev.wanted rfl, fun w_ => ?_⟩) rfl ?_
  · unfold execOp
    generalize a12.eval = ev at *
    go_simp
  obtain ⟨a13, qa13⟩ : ∃ z_, z_ = a12.put (some 105) (.int .i64 (f : Int)) := ⟨_, rfl⟩
  have k13 : Ev.Stay [92, 93, 94, 95, 96, 97, 98, 99, 100, 101, 102, 103, 104, 105, 106, 107, 108, 109, 110, 111, 112, 113] a a13 := by rw [qa13]; exact k12.put (by decide) _
  have e13_16 := Ev.oth qa13 (by decide) e12_16
  have e13_17 := Ev.oth qa13 (by decide) e12_17
  have e13_14 := Ev.oth qa13 (by decide) e12_14
  have e13_12 := Ev.oth qa13 (by decide) e12_12
  have e13_102 := Ev.oth qa13 (by decide) e12_102
  have e13_103 := Ev.oth qa13 (by decide) e12_103
  have e13_104 := Ev.oth qa13 (by decide) e12_104
  have e13_105 := Ev.sam qa13 (by rw [k12.1, hsz]; decide)
  rw [← qa13]
  clear qa13 e12_16 e12_17 e12_14 e12_12 e12_102 e12_103 e12_104
  refine pure_ (i := 13) (N := some 106) (v := .int .i64 ((i - f : Nat) : Int)) #[true, true, true, true, true, true, true, true, true, true, true, true, true, true, false, false, false, false, false, false, false, false] (Rg.of hops (Rg.atS (Rg.atS (Rg.atS (Rg.atS (Rg.atS (Rg.atS (Rg.atS (Rg.atS (Rg.atS (Rg.atS (Rg.atS (Rg.atS (Rg.atS Rg.at0)))))))))))))) rfl (by kernel_rfl) (fun c _ _ h => hP c _ _ _ (by rfl) h) (Or.inl ⟨Ev.wanted rfl, fun w_ => ?_⟩) rfl ?_
  · have ec0 : a13.eval (.const (.int .i64 (1))) = .int .i64 (1) := rfl
    unfold execOp
    generalize a13.eval = ev at *
    (go_simp; try (rw [wr (by omega) (by omega)]; omega))
  obtain ⟨a14, qa14⟩ : ∃ z_, z_ = a13.put (some 106) (.int .i64 ((i - f : Nat) : Int)) := ⟨_, rfl⟩
  have k14 : Ev.Stay [92, 93, 94, 95, 96, 97, 98, 99, 100, 101, 102, 103, 104, 105, 106, 107, 108, 109, 110, 111, 112, 113] a a14 := by rw [qa14]; exact k13.put (by decide) _
  have e14_16 := Ev.oth qa14 (by decide) e13_16
  have e14_17 := Ev.oth qa14 (by decide) e13_17
  have e14_14 := Ev.oth qa14 (by decide) e13_14
  have e14_12 := Ev.oth qa14 (by decide) e13_12
  have e14_102 := Ev.oth qa14 (by decide) e13_102
  have e14_103 := Ev.oth qa14 (by decide) e13_103
  have e14_104 := Ev.oth qa14 (by decide) e13_104
  have e14_105 := Ev.oth qa14 (by decide) e13_105
  have e14_106 := Ev.sam qa14 (by rw [k13.1, hsz]; decide)
  rw [← qa14]
  clear qa14 e13_16 e13_17 e13_14 e13_12 e13_102 e13_103 e13_104 e13_105
  clear e14_104
  clear e14_105
  refine pure_ (i := 14) (N := some 107) (v := .pointer (some ⟨gl, i - f, none⟩)) #[true, true, true, true, true, true, true, true, true, true, true, true, true, true, true, false, false, false, false, false, false, false] (Rg.of hops (Rg.atS (Rg.atS (Rg.atS (Rg.atS (Rg.atS (Rg.atS (Rg.atS (Rg.atS (Rg.atS (Rg.atS (Rg.atS (Rg.atS (Rg.atS (Rg.atS Rg.at0))))))))))))))) rfl (by kernel_rfl) (fun c _ _ h => hP c _ _ _ (by rfl) h) (Or.inl ⟨Ev.wanted rfl, fun w_ => ?_⟩) rfl ?_
  · have lk_ : ((i - f : Nat) : Int) < (nl : Int) := by omega
    have lk0_ : (0 : Int) ≤ ((i - f : Nat) : Int) := by omega
    unfold execOp
    generalize a14.eval = ev at *
    go_simp
  obtain ⟨a15, qa15⟩ : ∃ z_, z_ = a14.put (some 107) (.pointer (some ⟨gl, i - f, none⟩)) := ⟨_, rfl⟩
  have k15 : Ev.Stay [92, 93, 94, 95, 96, 97, 98, 99, 100, 101, 102, 103, 104, 105, 106, 107, 108, 109, 110, 111, 112, 113] a a15 := by rw [qa15]; exact k14.put (by decide) _
  have e15_16 := Ev.oth qa15 (by decide) e14_16
  have e15_17 := Ev.oth qa15 (by decide) e14_17
  have e15_14 := Ev.oth qa15 (by decide) e14_14
  have e15_12 := Ev.oth qa15 (by decide) e14_12
  have e15_102 := Ev.oth qa15 (by decide) e14_102
  have e15_103 := Ev.oth qa15 (by decide) e14_103
  have e15_106 := Ev.oth qa15 (by decide) e14_106
  have e15_107 := Ev.sam qa15 (by rw [k14.1, hsz]; decide)
  rw [← qa15]
  clear qa15 e14_16 e14_17 e14_14 e14_12 e14_102 e14_103 e14_106
  clear e15_103
  clear e15_106
  refine take_ (i := 15) (N := some 108) (v := .slice (some ⟨rb, 0, none⟩) (m + 1) cb) #[true, true, true, true, true, true, true, true, true, true, true, true, true, true, true, true, false, false, false, false, false, false] (Rg.of hops (Rg.atS (Rg.atS (Rg.atS (Rg.atS (Rg.atS (Rg.atS (Rg.atS (Rg.atS (Rg.atS (Rg.atS (Rg.atS (Rg.atS (Rg.atS (Rg.atS (Rg.atS Rg.at0)))))))))))))))) rfl (by kernel_rfl) (fun c _ _ h => hP c _ _ _ (by rfl) h) (Ev.loadW (Ev.wanted rfl) rfl e15_107 (fun w hw => Ev.load56 hw.1.2)) hHeld rfl ?_
  obtain ⟨a16, qa16⟩ : ∃ z_, z_ = a15.put (some 108) (.slice (some ⟨rb, 0, none⟩) (m + 1) cb) := ⟨_, rfl⟩
  have k16 : Ev.Stay [92, 93, 94, 95, 96, 97, 98, 99, 100, 101, 102, 103, 104, 105, 106, 107, 108, 109, 110, 111, 112, 113] a a16 := by rw [qa16]; exact k15.put (by decide) _
  have e16_16 := Ev.oth qa16 (by decide) e15_16
  have e16_17 := Ev.oth qa16 (by decide) e15_17
  have e16_14 := Ev.oth qa16 (by decide) e15_14
  have e16_12 := Ev.oth qa16 (by decide) e15_12
  have e16_102 := Ev.oth qa16 (by decide) e15_102
  have e16_107 := Ev.oth qa16 (by decide) e15_107
  have e16_108 := Ev.sam qa16 (by rw [k15.1, hsz]; decide)
  rw [← qa16]
  clear qa16 e15_16 e15_17 e15_14 e15_12 e15_102 e15_107
  clear e16_107
  refine pure_ (i := 16) (N := some 109) (v := .int .i64 (j : Int)) #[true, true, true, true, true, true, true, true, true, true, true, true, true, true, true, true, true, false, false, false, false, false] (Rg.of hops (Rg.atS (Rg.atS (Rg.atS (Rg.atS (Rg.atS (Rg.atS (Rg.atS (Rg.atS (Rg.atS (Rg.atS (Rg.atS (Rg.atS (Rg.atS (Rg.atS (Rg.atS (Rg.atS Rg.at0))))))))))))))))) rfl (by kernel_rfl) (fun c _ _ h => hP c _ _ _ (by rfl) h) (Or.inl ⟨Ev.wanted rfl, fun w_ => ?_⟩) rfl ?_
  · unfold execOp
    generalize a16.eval = ev at *
    go_simp
  obtain ⟨a17, qa17⟩ : ∃ z_, z_ = a16.put (some 109) (.int .i64 (j : Int)) := ⟨_, rfl⟩
  have k17 : Ev.Stay [92, 93, 94, 95, 96, 97, 98, 99, 100, 101, 102, 103, 104, 105, 106, 107, 108, 109, 110, 111, 112, 113] a a17 := by rw [qa17]; exact k16.put (by decide) _
  have e17_16 := Ev.oth qa17 (by decide) e16_16
  have e17_17 := Ev.oth qa17 (by decide) e16_17
  have e17_14 := Ev.oth qa17 (by decide) e16_14
  have e17_12 := Ev.oth qa17 (by decide) e16_12
  have e17_102 := Ev.oth qa17 (by decide) e16_102
  have e17_108 := Ev.oth qa17 (by decide) e16_108
  have e17_109 := Ev.sam qa17 (by rw [k16.1, hsz]; decide)
  rw [← qa17]
  clear qa17 e16_16 e16_17 e16_14 e16_12 e16_102 e16_108
  refine pure_ (i := 17) (N := some 110) (v := .int .i64 ((j - 1 : Nat) : Int)) #[true, true, true, true, true, true, true, true, true, true, true, true, true, true, true, true, true, true, false, false, false, false] (Rg.of hops (Rg.atS (Rg.atS (Rg.atS (Rg.atS (Rg.atS (Rg.atS (Rg.atS (Rg.atS (Rg.atS (Rg.atS (Rg.atS (Rg.atS (Rg.atS (Rg.atS (Rg.atS (Rg.atS (Rg.atS Rg.at0)))))))))))))))))) rfl (by kernel_rfl) (fun c _ _ h => hP c _ _ _ (by rfl) h) (Or.inl ⟨Ev.wanted rfl, fun w_ => ?_⟩) rfl ?_
  · have ec0 : a17.eval (.const (.int .i64 (1))) = .int .i64 (1) := rfl
    unfold execOp
    generalize a17.eval = ev at *
    (go_simp; try (rw [wr (by omega) (by omega)]; omega))
  obtain ⟨a18, qa18⟩ : ∃ z_, z_ = a17.put (some 110) (.int .i64 ((j - 1 : Nat) : Int)) := ⟨_, rfl⟩
  have k18 : Ev.Stay [92, 93, 94, 95, 96, 97, 98, 99, 100, 101, 102, 103, 104, 105, 106, 107, 108, 109, 110, 111, 112, 113] a a18 := by rw [qa18]; exact k17.put (by decide) _
  have e18_16 := Ev.oth qa18 (by decide) e17_16
  have e18_17 := Ev.oth qa18 (by decide) e17_17
  have e18_14 := Ev.oth qa18 (by decide) e17_14
  have e18_12 := Ev.oth qa18 (by decide) e17_12
  have e18_102 := Ev.oth qa18 (by decide) e17_102
  have e18_108 := Ev.oth qa18 (by decide) e17_108
  have e18_109 := Ev.oth qa18 (by decide) e17_109
  have e18_110 := Ev.sam qa18 (by rw [k17.1, hsz]; decide)
  rw [← qa18]
  clear qa18 e17_16 e17_17 e17_14 e17_12 e17_102 e17_108 e17_109
  clear e18_109
  refine pure_ (i := 18) (N := some 111) (v := .pointer (some ⟨rb, j - 1, none⟩)) #[true, true, true, true, true, true, true, true, true, true, true, true, true, true, true, true, true, true, true, false, false, false] (Rg.of hops (Rg.atS (Rg.atS (Rg.atS (Rg.atS (Rg.atS (Rg.atS (Rg.atS (Rg.atS (Rg.atS (Rg.atS (Rg.atS (Rg.atS (Rg.atS (Rg.atS (Rg.atS (Rg.atS (Rg.atS (Rg.atS Rg.at0))))))))))))))))))) rfl (by kernel_rfl) (fun c _ _ h => hP c _ _ _ (by rfl) h) (Or.inl ⟨Ev.wanted rfl, fun w_ => ?_⟩) rfl ?_
  · have lk_ : ((j - 1 : Nat) : Int) < (m : Int) + 1 := by omega
    have lk0_ : (0 : Int) ≤ ((j - 1 : Nat) : Int) := by omega
    unfold execOp
    generalize a18.eval = ev at *
    go_simp
  obtain ⟨a19, qa19⟩ : ∃ z_, z_ = a18.put (some 111) (.pointer (some ⟨rb, j - 1, none⟩)) := ⟨_, rfl⟩
  have k19 : Ev.Stay [92, 93, 94, 95, 96, 97, 98, 99, 100, 101, 102, 103, 104, 105, 106, 107, 108, 109, 110, 111, 112, 113] a a19 := by rw [qa19]; exact k18.put (by decide) _
  have e19_16 := Ev.oth qa19 (by decide) e18_16
  have e19_17 := Ev.oth qa19 (by decide) e18_17
  have e19_14 := Ev.oth qa19 (by decide) e18_14
  have e19_12 := Ev.oth qa19 (by decide) e18_12
  have e19_102 := Ev.oth qa19 (by decide) e18_102
  have e19_108 := Ev.oth qa19 (by decide) e18_108
  have e19_110 := Ev.oth qa19 (by decide) e18_110
  have e19_111 := Ev.sam qa19 (by rw [k18.1, hsz]; decide)
  rw [← qa19]
  clear qa19 e18_16 e18_17 e18_14 e18_12 e18_102 e18_108 e18_110
  clear e19_108
  clear e19_110
  refine take_ (i := 19) (N := some 112) (v := .int .i64 (y)) #[true, true, true, true, true, true, true, true, true, true, true, true, true, true, true, true, true, true, true, true, false, false] (Rg.of hops (Rg.atS (Rg.atS (Rg.atS (Rg.atS (Rg.atS (Rg.atS (Rg.atS (Rg.atS (Rg.atS (Rg.atS (Rg.atS (Rg.atS (Rg.atS (Rg.atS (Rg.atS (Rg.atS (Rg.atS (Rg.atS (Rg.atS Rg.at0)))))))))))))))))))) rfl (by kernel_rfl) (fun c _ _ h => hP c _ _ _ (by rfl) h) (Ev.loadW (Ev.wanted rfl) rfl e19_111 (fun w hw => Ev.load3 hw.2.2)) hHeld rfl ?_
  obtain ⟨a20, qa20⟩ : ∃ z_, z_ = a19.put (some 112) (.int .i64 (y)) := ⟨_, rfl⟩
  have k20 : Ev.Stay [92, 93, 94, 95, 96, 97, 98, 99, 100, 101, 102, 103, 104, 105, 106, 107, 108, 109, 110, 111, 112, 113] a a20 := by rw [qa20]; exact k19.put (by decide) _
  have e20_16 := Ev.oth qa20 (by decide) e19_16
  have e20_17 := Ev.oth qa20 (by decide) e19_17
  have e20_14 := Ev.oth qa20 (by decide) e19_14
  have e20_12 := Ev.oth qa20 (by decide) e19_12
  have e20_102 := Ev.oth qa20 (by decide) e19_102
  have e20_111 := Ev.oth qa20 (by decide) e19_111
  have e20_112 := Ev.sam qa20 (by rw [k19.1, hsz]; decide)
  rw [← qa20]
  clear qa20 e19_16 e19_17 e19_14 e19_12 e19_102 e19_111
  clear e20_111
  refine pure_ (i := 20) (N := some 113) (v := .bool (decide (y ≤ x))) #[true, true, true, true, true, true, true, true, true, true, true, true, true, true, true, true, true, true, true, true, true, false] (Rg.of hops (Rg.atS (Rg.atS (Rg.atS (Rg.atS (Rg.atS (Rg.atS (Rg.atS (Rg.atS (Rg.atS (Rg.atS (Rg.atS (Rg.atS (Rg.atS (Rg.atS (Rg.atS (Rg.atS (Rg.atS (Rg.atS (Rg.atS (Rg.atS Rg.at0))))))))))))))))))))) rfl (by kernel_rfl) (fun c _ _ h => hP c _ _ _ (by rfl) h) (Or.inl ⟨Ev.wanted rfl, fun w_ => ?_⟩) rfl ?_
  · unfold execOp
    generalize a20.eval = ev at *
    (go_simp; try rfl)
  obtain ⟨a21, qa21⟩ : ∃ z_, z_ = a20.put (some 113) (.bool (decide (y ≤ x))) := ⟨_, rfl⟩
  have k21 : Ev.Stay [92, 93, 94, 95, 96, 97, 98, 99, 100, 101, 102, 103, 104, 105, 106, 107, 108, 109, 110, 111, 112, 113] a a21 := by rw [qa21]; exact k20.put (by decide) _
  have e21_16 := Ev.oth qa21 (by decide) e20_16
  have e21_17 := Ev.oth qa21 (by decide) e20_17
  have e21_14 := Ev.oth qa21 (by decide) e20_14
  have e21_12 := Ev.oth qa21 (by decide) e20_12
  have e21_102 := Ev.oth qa21 (by decide) e20_102
  have e21_112 := Ev.oth qa21 (by decide) e20_112
  have e21_113 := Ev.sam qa21 (by rw [k20.1, hsz]; decide)
  rw [← qa21]
  clear qa21 e20_16 e20_17 e20_14 e20_12 e20_102 e20_112
  clear e21_102
  clear e21_112
  refine pure_ (i := 21) (N := some 92) (v := .bool (decide (y ≤ x))) #[true, true, true, true, true, true, true, true, true, true, true, true, true, true, true, true, true, true, true, true, true, true] (Rg.of hops (Rg.atS (Rg.atS (Rg.atS (Rg.atS (Rg.atS (Rg.atS (Rg.atS (Rg.atS (Rg.atS (Rg.atS (Rg.atS (Rg.atS (Rg.atS (Rg.atS (Rg.atS (Rg.atS (Rg.atS (Rg.atS (Rg.atS (Rg.atS (Rg.atS Rg.at0)))))))))))))))))))))) rfl (by kernel_rfl) (fun c _ _ h => hP c _ _ _ (by rfl) h) (Or.inl ⟨Ev.wanted rfl, fun w_ => ?_⟩) rfl ?_
  · unfold execOp
    generalize a21.eval = ev at *
    go_simp
  obtain ⟨a22, qa22⟩ : ∃ z_, z_ = a21.put (some 92) (.bool (decide (y ≤ x))) := ⟨_, rfl⟩
  have k22 : Ev.Stay [92, 93, 94, 95, 96, 97, 98, 99, 100, 101, 102, 103, 104, 105, 106, 107, 108, 109, 110, 111, 112, 113] a a22 := by rw [qa22]; exact k21.put (by decide) _
  have e22_16 := Ev.oth qa22 (by decide) e21_16
  have e22_17 := Ev.oth qa22 (by decide) e21_17
  have e22_14 := Ev.oth qa22 (by decide) e21_14
  have e22_12 := Ev.oth qa22 (by decide) e21_12
  have e22_113 := Ev.oth qa22 (by decide) e21_113
  have e22_92 := Ev.sam qa22 (by rw [k21.1, hsz]; decide)
  rw [← qa22]
  clear qa22 e21_16 e21_17 e21_14 e21_12 e21_113
  refine done_ (by kernel_rfl) ?_
  exact hQ _ k22 e22_92
set_option maxHeartbeats 2000000 in
theorem Rg.r11 {id : Nat} {Q : Exit → Act → World → Prop} {a : Act} {W : World} {ga na ca g wd f u k c1 c2 : Nat} {A1 A2 AX : Option Addr} {la lb : List Int} {RR : Value → World → Prop}
    (hsz : a.tmps.size = 128) (hP : ∀ c a a' w, a'.defers = a.defers → Q (.panic c) a w → Q (.panic c) a' w)  (h1 : a.eval (.tmp 1) = .slice A1 la.length c1) (h2 : a.eval (.tmp 2) = .slice A2 lb.length c2) (h14 : a.eval (.tmp 14) = .int .i64 (f : Int)) (h15 : a.eval (.tmp 15) = .int .i64 (u : Int)) (h10 : a.eval (.tmp 10) = .slice (some ⟨ga, 0, none⟩) na ca) (h13 : a.eval (.tmp 13) = .int .i64 (k : Int)) (hf : f ≤ u) (hu : u ≤ la.length) (hc1 : la.length ≤ c1) (hk : k < na) (hAX : (if c1 = f then A1 else Option.map (fun x => x.add f) A1) = AX) (hc : W.drew.cell? ⟨ga, k, none⟩ = some (.slice (some ⟨g, 0, none⟩) wd wd)) (g1 : Calls Try.prog 20 #[.slice AX (u - f) (c1 - f), .slice A2 lb.length c2, .slice (some ⟨g, 0, none⟩) wd wd] W.drew fun e w' => ∃ v, e = .returned v ∧ RR v w')
    (hQ : ∀ a' v W', Ev.Stay [16, 48, 49, 50, 51, 52, 53, 54, 55, 56, 57] a a' → a'.eval (.tmp 16) = v → RR v W' → Q .normal a' W') : (Code.region id (Ru.ops 10 11) true).wp Try.prog Q a W := by
  have hops : Ru.ops 10 11 = List.toArray [_, _, _, _, _, _, _, _, _, _, _] := rfl
  refine start_ (S := fun w_ => w_.cell? ⟨ga, k, none⟩ = some (.slice (some ⟨g, 0, none⟩) wd wd)) (ds := [9]) #[false, false, false, false, false, false, false, false, false, false, false] (by kernel_rfl) (n := 11) rfl rfl ?S0 (fun hHeld => ?_)
  case S0 => exact hc
  have k0 : Ev.Stay [16, 48, 49, 50, 51, 52, 53, 54, 55, 56, 57] a a := Ev.Stay.refl [16, 48, 49, 50, 51, 52, 53, 54, 55, 56, 57] a
  refine pure_ (i := 0) (N := some 48) (v := .slice A1 la.length c1) #[true, false, false, false, false, false, false, false, false, false, false] (Rg.of hops Rg.at0) rfl (by kernel_rfl) (fun c _ _ h => hP c _ _ _ (by rfl) h) (Or.inl ⟨Ev.wanted rfl, fun w_ => ?_⟩) rfl ?_
  · unfold execOp
    generalize a.eval = ev at *
    go_simp
  obtain ⟨a1, qa1⟩ : ∃ z_, z_ = a.put (some 48) (.slice A1 la.length c1) := ⟨_, rfl⟩
  have k1 : Ev.Stay [16, 48, 49, 50, 51, 52, 53, 54, 55, 56, 57] a a1 := by rw [qa1]; exact k0.put (by decide) _
  have e1_1 := Ev.oth qa1 (by decide) h1
  have e1_2 := Ev.oth qa1 (by decide) h2
  have e1_14 := Ev.oth qa1 (by decide) h14
  have e1_15 := Ev.oth qa1 (by decide) h15
  have e1_10 := Ev.oth qa1 (by decide) h10
  have e1_13 := Ev.oth qa1 (by decide) h13
  have e1_48 := Ev.sam qa1 (by rw [k0.1, hsz]; decide)
  rw [← qa1]
  clear qa1 
  refine pure_ (i := 1) (N := some 49) (v := .int .i64 (f : Int)) #[true, true, false, false, false, false, false, false, false, false, false] (Rg.of hops (Rg.atS Rg.at0)) rfl (by kernel_rfl) (fun c _ _ h => hP c _ _ _ (by rfl) h) (Or.inl ⟨Ev.wanted rfl, fun w_ => ?_⟩) rfl ?_
  · unfold execOp
    generalize a1.eval = ev at *
    go_simp
  obtain ⟨a2, qa2⟩ : ∃ z_, z_ = a1.put (some 49) (.int .i64 (f : Int)) := ⟨_, rfl⟩
  have k2 : Ev.Stay [16, 48, 49, 50, 51, 52, 53, 54, 55, 56, 57] a a2 := by rw [qa2]; exact k1.put (by decide) _
  have e2_1 := Ev.oth qa2 (by decide) e1_1
  have e2_2 := Ev.oth qa2 (by decide) e1_2
  have e2_14 := Ev.oth qa2 (by decide) e1_14
  have e2_15 := Ev.oth qa2 (by decide) e1_15
  have e2_10 := Ev.oth qa2 (by decide) e1_10
  have e2_13 := Ev.oth qa2 (by decide) e1_13
  have e2_48 := Ev.oth qa2 (by decide) e1_48
  have e2_49 := Ev.sam qa2 (by rw [k1.1, hsz]; decide)
  rw [← qa2]
  clear qa2 e1_1 e1_2 e1_14 e1_15 e1_10 e1_13 e1_48
  refine pure_ (i := 2) (N := some 50) (v := .int .i64 (u : Int)) #[true, true, true, false, false, false, false, false, false, false, false] (Rg.of hops (Rg.atS (Rg.atS Rg.at0))) rfl (by kernel_rfl) (fun c _ _ h => hP c _ _ _ (by rfl) h) (Or.inl ⟨Ev.wanted rfl, fun w_ => ?_⟩) rfl ?_
  · unfold execOp
    generalize a2.eval = ev at *
    go_simp
  obtain ⟨a3, qa3⟩ : ∃ z_, z_ = a2.put (some 50) (.int .i64 (u : Int)) := ⟨_, rfl⟩
  have k3 : Ev.Stay [16, 48, 49, 50, 51, 52, 53, 54, 55, 56, 57] a a3 := by rw [qa3]; exact k2.put (by decide) _
  have e3_1 := Ev.oth qa3 (by decide) e2_1
  have e3_2 := Ev.oth qa3 (by decide) e2_2
  have e3_14 := Ev.oth qa3 (by decide) e2_14
  have e3_15 := Ev.oth qa3 (by decide) e2_15
  have e3_10 := Ev.oth qa3 (by decide) e2_10
  have e3_13 := Ev.oth qa3 (by decide) e2_13
  have e3_48 := Ev.oth qa3 (by decide) e2_48
  have e3_49 := Ev.oth qa3 (by decide) e2_49
  have e3_50 := Ev.sam qa3 (by rw [k2.1, hsz]; decide)
  rw [← qa3]
  clear qa3 e2_1 e2_2 e2_14 e2_15 e2_10 e2_13 e2_48 e2_49
  refine pure_ (i := 3) (N := some 51) (v := .slice AX (u - f) (c1 - f)) #[true, true, true, true, false, false, false, false, false, false, false] (Rg.of hops (Rg.atS (Rg.atS (Rg.atS Rg.at0)))) rfl (by kernel_rfl) (fun c _ _ h => hP c _ _ _ (by rfl) h) (Or.inl ⟨Ev.wanted rfl, fun w_ => ?_⟩) rfl ?_
  · have hA_ := hAX
    have lf_ : (f : Int) ≤ (u : Int) := by omega
    have lu_ : (u : Int) ≤ (c1 : Int) := by omega
    have l0_ : (0 : Int) ≤ (f : Int) := by omega
    unfold execOp
    generalize a3.eval = ev at *
    (go_simp; try (first | exact hA_ | simp [hA_]))
  obtain ⟨a4, qa4⟩ : ∃ z_, z_ = a3.put (some 51) (.slice AX (u - f) (c1 - f)) := ⟨_, rfl⟩
  have k4 : Ev.Stay [16, 48, 49, 50, 51, 52, 53, 54, 55, 56, 57] a a4 := by rw [qa4]; exact k3.put (by decide) _
  have e4_1 := Ev.oth qa4 (by decide) e3_1
  have e4_2 := Ev.oth qa4 (by decide) e3_2
  have e4_14 := Ev.oth qa4 (by decide) e3_14
  have e4_15 := Ev.oth qa4 (by decide) e3_15
  have e4_10 := Ev.oth qa4 (by decide) e3_10
  have e4_13 := Ev.oth qa4 (by decide) e3_13
  have e4_48 := Ev.oth qa4 (by decide) e3_48
  have e4_49 := Ev.oth qa4 (by decide) e3_49
  have e4_50 := Ev.oth qa4 (by decide) e3_50
  have e4_51 := Ev.sam qa4 (by rw [k3.1, hsz]; decide)
  rw [← qa4]
  clear qa4 e3_1 e3_2 e3_14 e3_15 e3_10 e3_13 e3_48 e3_49 e3_50
  clear e4_48
  clear e4_49
  clear e4_50
  refine pure_ (i := 4) (N := some 52) (v := .slice A2 lb.length c2) #[true, true, true, true, true, false, false, false, false, false, false] (Rg.of hops (Rg.atS (Rg.atS (Rg.atS (Rg.atS Rg.at0))))) rfl (by kernel_rfl) (fun c _ _ h => hP c _ _ _ (by rfl) h) (Or.inl ⟨Ev.wanted rfl, fun w_ => ?_⟩) rfl ?_
  · unfold execOp
    generalize a4.eval = ev at *
    go_simp
  obtain ⟨a5, qa5⟩ : ∃ z_, z_ = a4.put (some 52) (.slice A2 lb.length c2) := ⟨_, rfl⟩
  have k5 : Ev.Stay [16, 48, 49, 50, 51, 52, 53, 54, 55, 56, 57] a a5 := by rw [qa5]; exact k4.put (by decide) _
  have e5_1 := Ev.oth qa5 (by decide) e4_1
  have e5_2 := Ev.oth qa5 (by decide) e4_2
  have e5_14 := Ev.oth qa5 (by decide) e4_14
  have e5_15 := Ev.oth qa5 (by decide) e4_15
  have e5_10 := Ev.oth qa5 (by decide) e4_10
  have e5_13 := Ev.oth qa5 (by decide) e4_13
  have e5_51 := Ev.oth qa5 (by decide) e4_51
  have e5_52 := Ev.sam qa5 (by rw [k4.1, hsz]; decide)
  rw [← qa5]
  clear qa5 e4_1 e4_2 e4_14 e4_15 e4_10 e4_13 e4_51
  refine pure_ (i := 5) (N := some 53) (v := .slice (some ⟨ga, 0, none⟩) na ca) #[true, true, true, true, true, true, false, false, false, false, false] (Rg.of hops (Rg.atS (Rg.atS (Rg.atS (Rg.atS (Rg.atS Rg.at0)))))) rfl (by kernel_rfl) (fun c _ _ h => hP c _ _ _ (by rfl) h) (Or.inl ⟨Ev.wanted rfl, fun w_ => ?_⟩) rfl ?_
  · unfold execOp
    generalize a5.eval = ev at *
    go_simp
  obtain ⟨a6, qa6⟩ : ∃ z_, z_ = a5.put (some 53) (.slice (some ⟨ga, 0, none⟩) na ca) := ⟨_, rfl⟩
  have k6 : Ev.Stay [16, 48, 49, 50, 51, 52, 53, 54, 55, 56, 57] a a6 := by rw [qa6]; exact k5.put (by decide) _
  have e6_1 := Ev.oth qa6 (by decide) e5_1
  have e6_2 := Ev.oth qa6 (by decide) e5_2
  have e6_14 := Ev.oth qa6 (by decide) e5_14
  have e6_15 := Ev.oth qa6 (by decide) e5_15
  have e6_10 := Ev.oth qa6 (by decide) e5_10
  have e6_13 := Ev.oth qa6 (by decide) e5_13
  have e6_51 := Ev.oth qa6 (by decide) e5_51
  have e6_52 := Ev.oth qa6 (by decide) e5_52
  have e6_53 := Ev.sam qa6 (by rw [k5.1, hsz]; decide)
  rw [← qa6]
  clear qa6 e5_1 e5_2 e5_14 e5_15 e5_10 e5_13 e5_51 e5_52
  refine pure_ (i := 6) (N := some 54) (v := .int .i64 (k : Int)) #[true, true, true, true, true, true, true, false, false, false, false] (Rg.of hops (Rg.atS (Rg.atS (Rg.atS (Rg.atS (Rg.atS (Rg.atS Rg.at0))))))) rfl (by kernel_rfl) (fun c _ _ h => hP c _ _ _ (by rfl) h) (Or.inl ⟨Ev.wanted rfl, fun w_ => ?_⟩) rfl ?_
  · unfold execOp
    generalize a6.eval = ev at *
    go_simp
  obtain ⟨a7, qa7⟩ : ∃ z_, z_ = a6.put (some 54) (.int .i64 (k : Int)) := ⟨_, rfl⟩
  have k7 : Ev.Stay [16, 48, 49, 50, 51, 52, 53, 54, 55, 56, 57] a a7 := by rw [qa7]; exact k6.put (by decide) _
  have e7_1 := Ev.oth qa7 (by decide) e6_1
  have e7_2 := Ev.oth qa7 (by decide) e6_2
  have e7_14 := Ev.oth qa7 (by decide) e6_14
  have e7_15 := Ev.oth qa7 (by decide) e6_15
  have e7_10 := Ev.oth qa7 (by decide) e6_10
  have e7_13 := Ev.oth qa7 (by decide) e6_13
  have e7_51 := Ev.oth qa7 (by decide) e6_51
  have e7_52 := Ev.oth qa7 (by decide) e6_52
  have e7_53 := Ev.oth qa7 (by decide) e6_53
  have e7_54 := Ev.sam qa7 (by rw [k6.1, hsz]; decide)
  rw [← qa7]
  clear qa7 e6_1 e6_2 e6_14 e6_15 e6_10 e6_13 e6_51 e6_52 e6_53
  refine pure_ (i := 7) (N := some 55) (v := .pointer (some ⟨ga, k, none⟩)) #[true, true, true, true, true, true, true, true, false, false, false] (Rg.of hops (Rg.atS (Rg.atS (Rg.atS (Rg.atS (Rg.atS (Rg.atS (Rg.atS Rg.at0)))))))) rfl (by kernel_rfl) (fun c _ _ h => hP c _ _ _ (by rfl) h) (Or.inl ⟨Ev.wanted rfl, fun w_ => ?_⟩) rfl ?_
  · have lk_ : (k : Int) < (na : Int) := by omega
    have lk0_ : (0 : Int) ≤ (k : Int) := by omega
    unfold execOp
    generalize a7.eval = ev at *
    go_simp
  obtain ⟨a8, qa8⟩ : ∃ z_, z_ = a7.put (some 55) (.pointer (some ⟨ga, k, none⟩)) := ⟨_, rfl⟩
  have k8 : Ev.Stay [16, 48, 49, 50, 51, 52, 53, 54, 55, 56, 57] a a8 := by rw [qa8]; exact k7.put (by decide) _
  have e8_1 := Ev.oth qa8 (by decide) e7_1
  have e8_2 := Ev.oth qa8 (by decide) e7_2
  have e8_14 := Ev.oth qa8 (by decide) e7_14
  have e8_15 := Ev.oth qa8 (by decide) e7_15
  have e8_10 := Ev.oth qa8 (by decide) e7_10
  have e8_13 := Ev.oth qa8 (by decide) e7_13
  have e8_51 := Ev.oth qa8 (by decide) e7_51
  have e8_52 := Ev.oth qa8 (by decide) e7_52
  have e8_53 := Ev.oth qa8 (by decide) e7_53
  have e8_54 := Ev.oth qa8 (by decide) e7_54
  have e8_55 := Ev.sam qa8 (by rw [k7.1, hsz]; decide)
  rw [← qa8]
  clear qa8 e7_1 e7_2 e7_14 e7_15 e7_10 e7_13 e7_51 e7_52 e7_53 e7_54
  clear e8_53
  clear e8_54
  refine take_ (i := 8) (N := some 56) (v := .slice (some ⟨g, 0, none⟩) wd wd) #[true, true, true, true, true, true, true, true, true, false, false] (Rg.of hops (Rg.atS (Rg.atS (Rg.atS (Rg.atS (Rg.atS (Rg.atS (Rg.atS (Rg.atS Rg.at0))))))))) rfl (by kernel_rfl) (fun c _ _ h => hP c _ _ _ (by rfl) h) (Ev.loadW (Ev.wanted rfl) rfl e8_55 (fun w hw => Ev.load44 hw)) hHeld rfl ?_
  obtain ⟨a9, qa9⟩ : ∃ z_, z_ = a8.put (some 56) (.slice (some ⟨g, 0, none⟩) wd wd) := ⟨_, rfl⟩
  have k9 : Ev.Stay [16, 48, 49, 50, 51, 52, 53, 54, 55, 56, 57] a a9 := by rw [qa9]; exact k8.put (by decide) _
  have e9_1 := Ev.oth qa9 (by decide) e8_1
  have e9_2 := Ev.oth qa9 (by decide) e8_2
  have e9_14 := Ev.oth qa9 (by decide) e8_14
  have e9_15 := Ev.oth qa9 (by decide) e8_15
  have e9_10 := Ev.oth qa9 (by decide) e8_10
  have e9_13 := Ev.oth qa9 (by decide) e8_13
  have e9_51 := Ev.oth qa9 (by decide) e8_51
  have e9_52 := Ev.oth qa9 (by decide) e8_52
  have e9_55 := Ev.oth qa9 (by decide) e8_55
  have e9_56 := Ev.sam qa9 (by rw [k8.1, hsz]; decide)
  rw [← qa9]
  clear qa9 e8_1 e8_2 e8_14 e8_15 e8_10 e8_13 e8_51 e8_52 e8_55
  clear e9_55
  refine last_ (i := 9) (N := some 57) #[true, true, true, true, true, true, true, true, true, true, false] (Rg.of hops (Rg.atS (Rg.atS (Rg.atS (Rg.atS (Rg.atS (Rg.atS (Rg.atS (Rg.atS (Rg.atS Rg.at0)))))))))) rfl (by kernel_rfl) (by decide) (fun K hK => ?_)
  rw [if_pos (Ev.wanted rfl)]
  refine Ev.callK (N := 57) (f := 20) (args := #[.slice AX (u - f) (c1 - f), .slice A2 lb.length c2, .slice (some ⟨g, 0, none⟩) wd wd]) ?_ rfl (g1.mono ?_)
  · have ef : a9.eval (.func 20) = .func (.func 20) #[] #[] := rfl
    unfold execOp
    generalize a9.eval = ev at *
    go_simp
  rintro e_ w_ ⟨v, rfl, hR⟩
  refine ⟨_, rfl, ?_⟩
  refine hK.out _ _ ?_
  obtain ⟨a10, qa10⟩ : ∃ z_, z_ = a9.put (some 57) (v) := ⟨_, rfl⟩
  have k10 : Ev.Stay [16, 48, 49, 50, 51, 52, 53, 54, 55, 56, 57] a a10 := by rw [qa10]; exact k9.put (by decide) _
  have e10_1 := Ev.oth qa10 (by decide) e9_1
  have e10_2 := Ev.oth qa10 (by decide) e9_2
  have e10_14 := Ev.oth qa10 (by decide) e9_14
  have e10_15 := Ev.oth qa10 (by decide) e9_15
  have e10_10 := Ev.oth qa10 (by decide) e9_10
  have e10_13 := Ev.oth qa10 (by decide) e9_13
  have e10_51 := Ev.oth qa10 (by decide) e9_51
  have e10_52 := Ev.oth qa10 (by decide) e9_52
  have e10_56 := Ev.oth qa10 (by decide) e9_56
  have e10_57 := Ev.sam qa10 (by rw [k9.1, hsz]; decide)
  rw [← qa10]
  clear qa10 e9_1 e9_2 e9_14 e9_15 e9_10 e9_13 e9_51 e9_52 e9_56
  refine pure_ (i := 10) (N := some 16) (v := v) #[true, true, true, true, true, true, true, true, true, true, true] (Rg.of hops (Rg.atS (Rg.atS (Rg.atS (Rg.atS (Rg.atS (Rg.atS (Rg.atS (Rg.atS (Rg.atS (Rg.atS Rg.at0))))))))))) rfl (by kernel_rfl) (fun c _ _ h => hP c _ _ _ (by rfl) h) (Or.inl ⟨Ev.wanted rfl, fun w_ => ?_⟩) rfl ?_
  · clear g1
    unfold execOp
    generalize a10.eval = ev at *
    (simp [go_sem, *])
  obtain ⟨a11, qa11⟩ : ∃ z_, z_ = a10.put (some 16) (v) := ⟨_, rfl⟩
  have k11 : Ev.Stay [16, 48, 49, 50, 51, 52, 53, 54, 55, 56, 57] a a11 := by rw [qa11]; exact k10.put (by decide) _
  have e11_1 := Ev.oth qa11 (by decide) e10_1
  have e11_2 := Ev.oth qa11 (by decide) e10_2
  have e11_14 := Ev.oth qa11 (by decide) e10_14
  have e11_15 := Ev.oth qa11 (by decide) e10_15
  have e11_10 := Ev.oth qa11 (by decide) e10_10
  have e11_13 := Ev.oth qa11 (by decide) e10_13
  have e11_51 := Ev.oth qa11 (by decide) e10_51
  have e11_52 := Ev.oth qa11 (by decide) e10_52
  have e11_56 := Ev.oth qa11 (by decide) e10_56
  have e11_57 := Ev.oth qa11 (by decide) e10_57
  have e11_16 := Ev.sam qa11 (by rw [k10.1, hsz]; decide)
  rw [← qa11]
  clear qa11 e10_1 e10_2 e10_14 e10_15 e10_10 e10_13 e10_51 e10_52 e10_56 e10_57
  refine done_ (by kernel_rfl) ?_
  exact hQ _ _ _ k11 e11_16 hR
set_option maxHeartbeats 2000000 in
theorem Rg.r16 {id : Nat} {Q : Exit → Act → World → Prop} {a : Act} {W : World} {i j nb m : Nat} {v : Value} {xs : List Value}
    (hsz : a.tmps.size = 128)  (h11 : a.eval (.tmp 11) = v) (h17 : a.eval (.tmp 17) = .int .i64 (i : Int)) (h12 : a.eval (.tmp 12) = .int .i64 (j : Int)) (hown : W.ownsRow nb 49 2 v m xs) (hm : m ≤ 20000) (hnb : nb ≤ W.heap.size) (hi : 0 < i) (hi2 : i ≤ 1000) (hj : 0 < j) (hj2 : j ≤ 1000)
    (hQ : ∀ a' v' W', Ev.Stay [80, 81, 82, 83, 84, 85, 86, 87, 11] a a' → a'.eval (.tmp 11) = v' → W'.ownsRow nb 49 2 v' (m + 1) (xs ++ [.int .i64 ((i - 1 : Nat) : Int), .int .i64 ((j - 1 : Nat) : Int)]) → Kept W W' (fun k => some k = v.ownBlock) → Below nb W W' → Q .normal a' W') : (Code.region id (Ru.ops 10 16) false).wp Try.prog Q a W := by
  refine wp_region_list ?_
  show wpList _ _ _ (_ :: _ :: _ :: _ :: _ :: _ :: _ :: _ :: _ :: []) _ _
  have k0 : Ev.Stay [80, 81, 82, 83, 84, 85, 86, 87, 11] a a := Ev.Stay.refl [80, 81, 82, 83, 84, 85, 86, 87, 11] a
  refine Ev.pv (N := 80) (v := v) (W' := W) ?_ rfl rfl ?_
  · unfold execOp
    generalize a.eval = ev at *
    (simp [go_sem, *])
  obtain ⟨a1, qa1⟩ : ∃ z_, z_ = a.put (some 80) (v) := ⟨_, rfl⟩
  have k1 : Ev.Stay [80, 81, 82, 83, 84, 85, 86, 87, 11] a a1 := by rw [qa1]; exact k0.put (by decide) _
  have e1_11 := Ev.oth qa1 (by decide) h11
  have e1_17 := Ev.oth qa1 (by decide) h17
  have e1_12 := Ev.oth qa1 (by decide) h12
  have e1_80 := Ev.sam qa1 (by rw [k0.1, hsz]; decide)
  rw [← qa1]
  clear qa1 
  refine Ev.pv (N := 81) (v := .int .i64 (i : Int)) (W' := W) ?_ rfl rfl ?_
  · unfold execOp
    generalize a1.eval = ev at *
    go_simp
  obtain ⟨a2, qa2⟩ : ∃ z_, z_ = a1.put (some 81) (.int .i64 (i : Int)) := ⟨_, rfl⟩
  have k2 : Ev.Stay [80, 81, 82, 83, 84, 85, 86, 87, 11] a a2 := by rw [qa2]; exact k1.put (by decide) _
  have e2_11 := Ev.oth qa2 (by decide) e1_11
  have e2_17 := Ev.oth qa2 (by decide) e1_17
  have e2_12 := Ev.oth qa2 (by decide) e1_12
  have e2_80 := Ev.oth qa2 (by decide) e1_80
  have e2_81 := Ev.sam qa2 (by rw [k1.1, hsz]; decide)
  rw [← qa2]
  clear qa2 e1_11 e1_17 e1_12 e1_80
  refine Ev.pv (N := 82) (v := .int .i64 ((i - 1 : Nat) : Int)) (W' := W) ?_ rfl rfl ?_
  · have ec0 : a2.eval (.const (.int .i64 (1))) = .int .i64 (1) := rfl
    unfold execOp
    generalize a2.eval = ev at *
    (go_simp; try (rw [wr (by omega) (by omega)]; omega))
  obtain ⟨a3, qa3⟩ : ∃ z_, z_ = a2.put (some 82) (.int .i64 ((i - 1 : Nat) : Int)) := ⟨_, rfl⟩
  have k3 : Ev.Stay [80, 81, 82, 83, 84, 85, 86, 87, 11] a a3 := by rw [qa3]; exact k2.put (by decide) _
  have e3_11 := Ev.oth qa3 (by decide) e2_11
  have e3_17 := Ev.oth qa3 (by decide) e2_17
  have e3_12 := Ev.oth qa3 (by decide) e2_12
  have e3_80 := Ev.oth qa3 (by decide) e2_80
  have e3_81 := Ev.oth qa3 (by decide) e2_81
  have e3_82 := Ev.sam qa3 (by rw [k2.1, hsz]; decide)
  rw [← qa3]
  clear qa3 e2_11 e2_17 e2_12 e2_80 e2_81
  clear e3_81
  refine Ev.pv (N := 83) (v := .int .i64 (j : Int)) (W' := W) ?_ rfl rfl ?_
  · unfold execOp
    generalize a3.eval = ev at *
    go_simp
  obtain ⟨a4, qa4⟩ : ∃ z_, z_ = a3.put (some 83) (.int .i64 (j : Int)) := ⟨_, rfl⟩
  have k4 : Ev.Stay [80, 81, 82, 83, 84, 85, 86, 87, 11] a a4 := by rw [qa4]; exact k3.put (by decide) _
  have e4_11 := Ev.oth qa4 (by decide) e3_11
  have e4_17 := Ev.oth qa4 (by decide) e3_17
  have e4_12 := Ev.oth qa4 (by decide) e3_12
  have e4_80 := Ev.oth qa4 (by decide) e3_80
  have e4_82 := Ev.oth qa4 (by decide) e3_82
  have e4_83 := Ev.sam qa4 (by rw [k3.1, hsz]; decide)
  rw [← qa4]
  clear qa4 e3_11 e3_17 e3_12 e3_80 e3_82
  refine Ev.pv (N := 84) (v := .int .i64 ((j - 1 : Nat) : Int)) (W' := W) ?_ rfl rfl ?_
  · have ec0 : a4.eval (.const (.int .i64 (1))) = .int .i64 (1) := rfl
    unfold execOp
    generalize a4.eval = ev at *
    (go_simp; try (rw [wr (by omega) (by omega)]; omega))
  obtain ⟨a5, qa5⟩ : ∃ z_, z_ = a4.put (some 84) (.int .i64 ((j - 1 : Nat) : Int)) := ⟨_, rfl⟩
  have k5 : Ev.Stay [80, 81, 82, 83, 84, 85, 86, 87, 11] a a5 := by rw [qa5]; exact k4.put (by decide) _
  have e5_11 := Ev.oth qa5 (by decide) e4_11
  have e5_17 := Ev.oth qa5 (by decide) e4_17
  have e5_12 := Ev.oth qa5 (by decide) e4_12
  have e5_80 := Ev.oth qa5 (by decide) e4_80
  have e5_82 := Ev.oth qa5 (by decide) e4_82
  have e5_83 := Ev.oth qa5 (by decide) e4_83
  have e5_84 := Ev.sam qa5 (by rw [k4.1, hsz]; decide)
  rw [← qa5]
  clear qa5 e4_11 e4_17 e4_12 e4_80 e4_82 e4_83
  clear e5_83
  refine Ev.pv (N := 85) (v := .agg #[.int .i64 ((i - 1 : Nat) : Int), .int .i64 ((j - 1 : Nat) : Int)]) (W' := W) ?_ rfl rfl ?_
  · unfold execOp
    generalize a5.eval = ev at *
    go_simp
  obtain ⟨a6, qa6⟩ : ∃ z_, z_ = a5.put (some 85) (.agg #[.int .i64 ((i - 1 : Nat) : Int), .int .i64 ((j - 1 : Nat) : Int)]) := ⟨_, rfl⟩
  have k6 : Ev.Stay [80, 81, 82, 83, 84, 85, 86, 87, 11] a a6 := by rw [qa6]; exact k5.put (by decide) _
  have e6_11 := Ev.oth qa6 (by decide) e5_11
  have e6_17 := Ev.oth qa6 (by decide) e5_17
  have e6_12 := Ev.oth qa6 (by decide) e5_12
  have e6_80 := Ev.oth qa6 (by decide) e5_80
  have e6_82 := Ev.oth qa6 (by decide) e5_82
  have e6_84 := Ev.oth qa6 (by decide) e5_84
  have e6_85 := Ev.sam qa6 (by rw [k5.1, hsz]; decide)
  rw [← qa6]
  clear qa6 e5_11 e5_17 e5_12 e5_80 e5_82 e5_84
  clear e6_82
  clear e6_84
  refine Ev.pv (N := 86) (v := .slice (some ⟨W.heap.size, 0, none⟩) 1 1) (W' := W.alloc (.cells #[.int .i64 ((i - 1 : Nat) : Int), .int .i64 ((j - 1 : Nat) : Int)] 49)) ?_ rfl rfl ?_
  · unfold execOp
    generalize a6.eval = ev at *
    go_simp
  obtain ⟨a7, qa7⟩ : ∃ z_, z_ = a6.put (some 86) (.slice (some ⟨W.heap.size, 0, none⟩) 1 1) := ⟨_, rfl⟩
  have k7 : Ev.Stay [80, 81, 82, 83, 84, 85, 86, 87, 11] a a7 := by rw [qa7]; exact k6.put (by decide) _
  have e7_11 := Ev.oth qa7 (by decide) e6_11
  have e7_17 := Ev.oth qa7 (by decide) e6_17
  have e7_12 := Ev.oth qa7 (by decide) e6_12
  have e7_80 := Ev.oth qa7 (by decide) e6_80
  have e7_85 := Ev.oth qa7 (by decide) e6_85
  have e7_86 := Ev.sam qa7 (by rw [k6.1, hsz]; decide)
  rw [← qa7]
  clear qa7 e6_11 e6_17 e6_12 e6_80 e6_85
  clear e7_85
  refine wpList_append_own_at _ rfl (.tmp 80) (.tmp 86) 28 rfl nb 49 _ (.agg #[.int .i64 0, .int .i64 0]) 2 16 Try.underlying28 (Rg.info49).choose_spec.1 (Rg.info49).choose_spec.2.1 (Rg.info49).choose_spec.2.2.1 (Rg.info49).choose_spec.2.2.2 rfl (by decide) v m xs e7_80 (hown.alloc _) ⟨W.heap.size, 0, none⟩ 1 1 [.int .i64 ((i - 1 : Nat) : Int), .int .i64 ((j - 1 : Nat) : Int)] e7_86 rfl (Rg.cells2 W _ _ 49) (by simp [Value.oneCell']) (by unfold maxLen; omega) (by omega) (by rw [World.size_alloc]; omega) ?_
  intro v' w' ho hg _ hat
  have kk : Kept W w' (fun k => some k = v.ownBlock) := ((Kept.refl W _).alloc _).of_grown hg (fun k hk => Or.inl hk.symm)
  have bb : Below nb W w' := ((Below.refl nb W).alloc hnb _).grown hg (by rw [World.size_alloc]; omega) (fun k hk => (hown.lt k hk).1)
  obtain ⟨a8, qa8⟩ : ∃ z_, z_ = a7.put (some 87) (v') := ⟨_, rfl⟩
  have k8 : Ev.Stay [80, 81, 82, 83, 84, 85, 86, 87, 11] a a8 := by rw [qa8]; exact k7.put (by decide) _
  have e8_11 := Ev.oth qa8 (by decide) e7_11
  have e8_17 := Ev.oth qa8 (by decide) e7_17
  have e8_12 := Ev.oth qa8 (by decide) e7_12
  have e8_80 := Ev.oth qa8 (by decide) e7_80
  have e8_86 := Ev.oth qa8 (by decide) e7_86
  have e8_87 := Ev.sam qa8 (by rw [k7.1, hsz]; decide)
  rw [← qa8]
  clear qa8 e7_11 e7_17 e7_12 e7_80 e7_86
  refine Ev.pv (N := 11) (v := v') (W' := w') ?_ rfl rfl ?_
  · unfold execOp
    generalize a8.eval = ev at *
    (simp [go_sem, *])
  obtain ⟨a9, qa9⟩ : ∃ z_, z_ = a8.put (some 11) (v') := ⟨_, rfl⟩
  have k9 : Ev.Stay [80, 81, 82, 83, 84, 85, 86, 87, 11] a a9 := by rw [qa9]; exact k8.put (by decide) _
  have e9_17 := Ev.oth qa9 (by decide) e8_17
  have e9_12 := Ev.oth qa9 (by decide) e8_12
  have e9_80 := Ev.oth qa9 (by decide) e8_80
  have e9_86 := Ev.oth qa9 (by decide) e8_86
  have e9_87 := Ev.oth qa9 (by decide) e8_87
  have e9_11 := Ev.sam qa9 (by rw [k8.1, hsz]; decide)
  rw [← qa9]
  clear qa9 e8_11 e8_17 e8_12 e8_80 e8_86 e8_87
  exact hQ _ _ _ k9 e9_11 ho kk bb
set_option maxHeartbeats 2000000 in
theorem Rg.r20 {id : Nat} {Q : Exit → Act → World → Prop} {a : Act} {W : World} {v : Value} {RR : World → Prop}
    (hsz : a.tmps.size = 128)  (h11 : a.eval (.tmp 11) = v) (g1 : Calls Try.prog 21 #[v] W fun e w' => e = .returned (.tuple #[]) ∧ RR w')
    (hQ : ∀ a' W', Ev.Stay [116, 117] a a' → RR W' → Q .normal a' W') : (Code.region id (Ru.ops 10 20) false).wp Try.prog Q a W := by
  refine wp_region_list ?_
  show wpList _ _ _ (_ :: _ :: []) _ _
  have k0 : Ev.Stay [116, 117] a a := Ev.Stay.refl [116, 117] a
  refine Ev.pv (N := 116) (v := v) (W' := W) ?_ rfl rfl ?_
  · unfold execOp
    generalize a.eval = ev at *
    (simp [go_sem, *])
  obtain ⟨a1, qa1⟩ : ∃ z_, z_ = a.put (some 116) (v) := ⟨_, rfl⟩
  have k1 : Ev.Stay [116, 117] a a1 := by rw [qa1]; exact k0.put (by decide) _
  have e1_11 := Ev.oth qa1 (by decide) h11
  have e1_116 := Ev.sam qa1 (by rw [k0.1, hsz]; decide)
  rw [← qa1]
  clear qa1 
  refine Ev.pc (N := 117) (f := 21) (args := #[v]) ?_ rfl rfl (g1.mono ?_)
  · have ef : a1.eval (.func 21) = .func (.func 21) #[] #[] := rfl
    unfold execOp
    generalize a1.eval = ev at *
    go_simp
  rintro e_ w_ ⟨rfl, hR⟩
  refine ⟨_, rfl, ?_⟩
  obtain ⟨a2, qa2⟩ : ∃ z_, z_ = a1.put (some 117) (.tuple #[]) := ⟨_, rfl⟩
  have k2 : Ev.Stay [116, 117] a a2 := by rw [qa2]; exact k1.put (by decide) _
  have e2_11 := Ev.oth qa2 (by decide) e1_11
  have e2_116 := Ev.oth qa2 (by decide) e1_116
  have e2_117 := Ev.sam qa2 (by rw [k1.1, hsz]; decide)
  rw [← qa2]
  clear qa2 e1_11 e1_116
  exact hQ _ _ k2 hR
set_option maxHeartbeats 2000000 in
theorem Rg.r21 {id : Nat} {Q : Exit → Act → World → Prop} {a : Act} {W : World} {t : Nat} {A1 A2 : Option Addr} {c1 c2 : Nat} {la lb : List Int} {v : Value}
    (hsz : a.tmps.size = 128)  (h11 : a.eval (.tmp 11) = v) (h1 : a.eval (.tmp 1) = .slice A1 la.length c1) (h2 : a.eval (.tmp 2) = .slice A2 lb.length c2) (h9 : a.eval (.tmp 9) = .int .i64 (t : Int)) (ht : 1 ≤ t ∧ t ≤ 3) (hla : la.length ≤ 1000) (hlb : lb.length ≤ 1000) (hu : upN la.length t * upN lb.length t ≤ 1000000)
    (hQ : ∀ a' nd, Ev.Stay [118, 119, 120, 121, 122, 123, 124, 125, 126, 127, 6, 7, 8] a a' → a'.eval (.tmp 6) = v → a'.eval (.tmp 7) = .int .i64 ((upN la.length t * upN lb.length t : Nat) : Int) → a'.eval (.tmp 8) = .int .i64 (0) → Q .normal a' (W.drewN nd)) : (Code.region id (Ru.ops 10 21) false).wp Try.prog Q a W := by
  refine wp_region_list ?_
  show wpList _ _ _ (_ :: _ :: _ :: _ :: _ :: _ :: _ :: _ :: _ :: _ :: _ :: _ :: _ :: []) _ _
  have k0 : Ev.Stay [118, 119, 120, 121, 122, 123, 124, 125, 126, 127, 6, 7, 8] a a := Ev.Stay.refl [118, 119, 120, 121, 122, 123, 124, 125, 126, 127, 6, 7, 8] a
  refine Ev.pv (N := 118) (v := v) (W' := W) ?_ rfl rfl ?_
  · unfold execOp
    generalize a.eval = ev at *
    (simp [go_sem, *])
  obtain ⟨a1, qa1⟩ : ∃ z_, z_ = a.put (some 118) (v) := ⟨_, rfl⟩
  have k1 : Ev.Stay [118, 119, 120, 121, 122, 123, 124, 125, 126, 127, 6, 7, 8] a a1 := by rw [qa1]; exact k0.put (by decide) _
  have e1_11 := Ev.oth qa1 (by decide) h11
  have e1_1 := Ev.oth qa1 (by decide) h1
  have e1_2 := Ev.oth qa1 (by decide) h2
  have e1_9 := Ev.oth qa1 (by decide) h9
  have e1_118 := Ev.sam qa1 (by rw [k0.1, hsz]; decide)
  rw [← qa1]
  clear qa1 
  refine Ev.pv (N := 119) (v := .slice A1 la.length c1) (W' := W) ?_ rfl rfl ?_
  · unfold execOp
    generalize a1.eval = ev at *
    go_simp
  obtain ⟨a2, qa2⟩ : ∃ z_, z_ = a1.put (some 119) (.slice A1 la.length c1) := ⟨_, rfl⟩
  have k2 : Ev.Stay [118, 119, 120, 121, 122, 123, 124, 125, 126, 127, 6, 7, 8] a a2 := by rw [qa2]; exact k1.put (by decide) _
  have e2_11 := Ev.oth qa2 (by decide) e1_11
  have e2_1 := Ev.oth qa2 (by decide) e1_1
  have e2_2 := Ev.oth qa2 (by decide) e1_2
  have e2_9 := Ev.oth qa2 (by decide) e1_9
  have e2_118 := Ev.oth qa2 (by decide) e1_118
  have e2_119 := Ev.sam qa2 (by rw [k1.1, hsz]; decide)
  rw [← qa2]
  clear qa2 e1_11 e1_1 e1_2 e1_9 e1_118
  refine Ev.pv (N := 120) (v := .int .i64 (la.length : Int)) (W' := W) ?_ rfl rfl ?_
  · unfold execOp
    generalize a2.eval = ev at *
    go_simp
  obtain ⟨a3, qa3⟩ : ∃ z_, z_ = a2.put (some 120) (.int .i64 (la.length : Int)) := ⟨_, rfl⟩
  have k3 : Ev.Stay [118, 119, 120, 121, 122, 123, 124, 125, 126, 127, 6, 7, 8] a a3 := by rw [qa3]; exact k2.put (by decide) _
  have e3_11 := Ev.oth qa3 (by decide) e2_11
  have e3_1 := Ev.oth qa3 (by decide) e2_1
  have e3_2 := Ev.oth qa3 (by decide) e2_2
  have e3_9 := Ev.oth qa3 (by decide) e2_9
  have e3_118 := Ev.oth qa3 (by decide) e2_118
  have e3_119 := Ev.oth qa3 (by decide) e2_119
  have e3_120 := Ev.sam qa3 (by rw [k2.1, hsz]; decide)
  rw [← qa3]
  clear qa3 e2_11 e2_1 e2_2 e2_9 e2_118 e2_119
  clear e3_119
  refine Ev.pv (N := 121) (v := .int .i64 (t : Int)) (W' := W) ?_ rfl rfl ?_
  · unfold execOp
    generalize a3.eval = ev at *
    go_simp
  obtain ⟨a4, qa4⟩ : ∃ z_, z_ = a3.put (some 121) (.int .i64 (t : Int)) := ⟨_, rfl⟩
  have k4 : Ev.Stay [118, 119, 120, 121, 122, 123, 124, 125, 126, 127, 6, 7, 8] a a4 := by rw [qa4]; exact k3.put (by decide) _
  have e4_11 := Ev.oth qa4 (by decide) e3_11
  have e4_1 := Ev.oth qa4 (by decide) e3_1
  have e4_2 := Ev.oth qa4 (by decide) e3_2
  have e4_9 := Ev.oth qa4 (by decide) e3_9
  have e4_118 := Ev.oth qa4 (by decide) e3_118
  have e4_120 := Ev.oth qa4 (by decide) e3_120
  have e4_121 := Ev.sam qa4 (by rw [k3.1, hsz]; decide)
  rw [← qa4]
  clear qa4 e3_11 e3_1 e3_2 e3_9 e3_118 e3_120
  refine Ev.pc (N := 122) (f := 19) (args := #[.int .i64 (la.length : Int), .int .i64 (t : Int)]) ?_ rfl rfl ((up_calls W hla ht).mono ?_)
  · have ef : a4.eval (.func 19) = .func (.func 19) #[] #[] := rfl
    unfold execOp
    generalize a4.eval = ev at *
    go_simp
  rintro e_ w_ ⟨rfl, n1, rfl⟩
  refine ⟨_, rfl, ?_⟩
  obtain ⟨a5, qa5⟩ : ∃ z_, z_ = a4.put (some 122) (.int .i64 ((upN la.length t : Nat) : Int)) := ⟨_, rfl⟩
  have k5 : Ev.Stay [118, 119, 120, 121, 122, 123, 124, 125, 126, 127, 6, 7, 8] a a5 := by rw [qa5]; exact k4.put (by decide) _
  have e5_11 := Ev.oth qa5 (by decide) e4_11
  have e5_1 := Ev.oth qa5 (by decide) e4_1
  have e5_2 := Ev.oth qa5 (by decide) e4_2
  have e5_9 := Ev.oth qa5 (by decide) e4_9
  have e5_118 := Ev.oth qa5 (by decide) e4_118
  have e5_120 := Ev.oth qa5 (by decide) e4_120
  have e5_121 := Ev.oth qa5 (by decide) e4_121
  have e5_122 := Ev.sam qa5 (by rw [k4.1, hsz]; decide)
  rw [← qa5]
  clear qa5 e4_11 e4_1 e4_2 e4_9 e4_118 e4_120 e4_121
  clear e5_120
  clear e5_121
  refine Ev.pv (N := 123) (v := .slice A2 lb.length c2) (W' := W.drewN n1) ?_ rfl rfl ?_
  · unfold execOp
    generalize a5.eval = ev at *
    go_simp
  obtain ⟨a6, qa6⟩ : ∃ z_, z_ = a5.put (some 123) (.slice A2 lb.length c2) := ⟨_, rfl⟩
  have k6 : Ev.Stay [118, 119, 120, 121, 122, 123, 124, 125, 126, 127, 6, 7, 8] a a6 := by rw [qa6]; exact k5.put (by decide) _
  have e6_11 := Ev.oth qa6 (by decide) e5_11
  have e6_1 := Ev.oth qa6 (by decide) e5_1
  have e6_2 := Ev.oth qa6 (by decide) e5_2
  have e6_9 := Ev.oth qa6 (by decide) e5_9
  have e6_118 := Ev.oth qa6 (by decide) e5_118
  have e6_122 := Ev.oth qa6 (by decide) e5_122
  have e6_123 := Ev.sam qa6 (by rw [k5.1, hsz]; decide)
  rw [← qa6]
  clear qa6 e5_11 e5_1 e5_2 e5_9 e5_118 e5_122
  refine Ev.pv (N := 124) (v := .int .i64 (lb.length : Int)) (W' := W.drewN n1) ?_ rfl rfl ?_
  · unfold execOp
    generalize a6.eval = ev at *
    go_simp
  obtain ⟨a7, qa7⟩ : ∃ z_, z_ = a6.put (some 124) (.int .i64 (lb.length : Int)) := ⟨_, rfl⟩
  have k7 : Ev.Stay [118, 119, 120, 121, 122, 123, 124, 125, 126, 127, 6, 7, 8] a a7 := by rw [qa7]; exact k6.put (by decide) _
  have e7_11 := Ev.oth qa7 (by decide) e6_11
  have e7_1 := Ev.oth qa7 (by decide) e6_1
  have e7_2 := Ev.oth qa7 (by decide) e6_2
  have e7_9 := Ev.oth qa7 (by decide) e6_9
  have e7_118 := Ev.oth qa7 (by decide) e6_118
  have e7_122 := Ev.oth qa7 (by decide) e6_122
  have e7_123 := Ev.oth qa7 (by decide) e6_123
  have e7_124 := Ev.sam qa7 (by rw [k6.1, hsz]; decide)
  rw [← qa7]
  clear qa7 e6_11 e6_1 e6_2 e6_9 e6_118 e6_122 e6_123
  clear e7_123
  refine Ev.pv (N := 125) (v := .int .i64 (t : Int)) (W' := W.drewN n1) ?_ rfl rfl ?_
  · unfold execOp
    generalize a7.eval = ev at *
    go_simp
  obtain ⟨a8, qa8⟩ : ∃ z_, z_ = a7.put (some 125) (.int .i64 (t : Int)) := ⟨_, rfl⟩
  have k8 : Ev.Stay [118, 119, 120, 121, 122, 123, 124, 125, 126, 127, 6, 7, 8] a a8 := by rw [qa8]; exact k7.put (by decide) _
  have e8_11 := Ev.oth qa8 (by decide) e7_11
  have e8_1 := Ev.oth qa8 (by decide) e7_1
  have e8_2 := Ev.oth qa8 (by decide) e7_2
  have e8_9 := Ev.oth qa8 (by decide) e7_9
  have e8_118 := Ev.oth qa8 (by decide) e7_118
  have e8_122 := Ev.oth qa8 (by decide) e7_122
  have e8_124 := Ev.oth qa8 (by decide) e7_124
  have e8_125 := Ev.sam qa8 (by rw [k7.1, hsz]; decide)
  rw [← qa8]
  clear qa8 e7_11 e7_1 e7_2 e7_9 e7_118 e7_122 e7_124
  refine Ev.pc (N := 126) (f := 19) (args := #[.int .i64 (lb.length : Int), .int .i64 (t : Int)]) ?_ rfl rfl ((up_calls (W.drewN n1) hlb ht).mono ?_)
  · have ef : a8.eval (.func 19) = .func (.func 19) #[] #[] := rfl
    unfold execOp
    generalize a8.eval = ev at *
    go_simp
  rintro e_ w_ ⟨rfl, n2, rfl⟩
  refine ⟨_, rfl, ?_⟩
  obtain ⟨a9, qa9⟩ : ∃ z_, z_ = a8.put (some 126) (.int .i64 ((upN lb.length t : Nat) : Int)) := ⟨_, rfl⟩
  have k9 : Ev.Stay [118, 119, 120, 121, 122, 123, 124, 125, 126, 127, 6, 7, 8] a a9 := by rw [qa9]; exact k8.put (by decide) _
  have e9_11 := Ev.oth qa9 (by decide) e8_11
  have e9_1 := Ev.oth qa9 (by decide) e8_1
  have e9_2 := Ev.oth qa9 (by decide) e8_2
  have e9_9 := Ev.oth qa9 (by decide) e8_9
  have e9_118 := Ev.oth qa9 (by decide) e8_118
  have e9_122 := Ev.oth qa9 (by decide) e8_122
  have e9_124 := Ev.oth qa9 (by decide) e8_124
  have e9_125 := Ev.oth qa9 (by decide) e8_125
  have e9_126 := Ev.sam qa9 (by rw [k8.1, hsz]; decide)
  rw [← qa9]
  clear qa9 e8_11 e8_1 e8_2 e8_9 e8_118 e8_122 e8_124 e8_125
  clear e9_124
  clear e9_125
  refine Ev.pv (N := 127) (v := .int .i64 ((upN la.length t * upN lb.length t : Nat) : Int)) (W' := (W.drewN n1).drewN n2) ?_ rfl rfl ?_
  · have e_ : ((upN la.length t * upN lb.length t : Nat) : Int) = ((upN la.length t : Nat) : Int) * ((upN lb.length t : Nat) : Int) := by simp
    have u_ := hu
    unfold execOp
    generalize a9.eval = ev at *
    (go_simp; try (rw [← e_]; exact wr (by omega) (by omega)))
  obtain ⟨a10, qa10⟩ : ∃ z_, z_ = a9.put (some 127) (.int .i64 ((upN la.length t * upN lb.length t : Nat) : Int)) := ⟨_, rfl⟩
  have k10 : Ev.Stay [118, 119, 120, 121, 122, 123, 124, 125, 126, 127, 6, 7, 8] a a10 := by rw [qa10]; exact k9.put (by decide) _
  have e10_11 := Ev.oth qa10 (by decide) e9_11
  have e10_1 := Ev.oth qa10 (by decide) e9_1
  have e10_2 := Ev.oth qa10 (by decide) e9_2
  have e10_9 := Ev.oth qa10 (by decide) e9_9
  have e10_118 := Ev.oth qa10 (by decide) e9_118
  have e10_122 := Ev.oth qa10 (by decide) e9_122
  have e10_126 := Ev.oth qa10 (by decide) e9_126
  have e10_127 := Ev.sam qa10 (by rw [k9.1, hsz]; decide)
  rw [← qa10]
  clear qa10 e9_11 e9_1 e9_2 e9_9 e9_118 e9_122 e9_126
  clear e10_122
  clear e10_126
  refine Ev.pv (N := 6) (v := v) (W' := (W.drewN n1).drewN n2) ?_ rfl rfl ?_
  · unfold execOp
    generalize a10.eval = ev at *
    (simp [go_sem, *])
  obtain ⟨a11, qa11⟩ : ∃ z_, z_ = a10.put (some 6) (v) := ⟨_, rfl⟩
  have k11 : Ev.Stay [118, 119, 120, 121, 122, 123, 124, 125, 126, 127, 6, 7, 8] a a11 := by rw [qa11]; exact k10.put (by decide) _
  have e11_11 := Ev.oth qa11 (by decide) e10_11
  have e11_1 := Ev.oth qa11 (by decide) e10_1
  have e11_2 := Ev.oth qa11 (by decide) e10_2
  have e11_9 := Ev.oth qa11 (by decide) e10_9
  have e11_118 := Ev.oth qa11 (by decide) e10_118
  have e11_127 := Ev.oth qa11 (by decide) e10_127
  have e11_6 := Ev.sam qa11 (by rw [k10.1, hsz]; decide)
  rw [← qa11]
  clear qa11 e10_11 e10_1 e10_2 e10_9 e10_118 e10_127
  refine Ev.pv (N := 7) (v := .int .i64 ((upN la.length t * upN lb.length t : Nat) : Int)) (W' := (W.drewN n1).drewN n2) ?_ rfl rfl ?_
  · unfold execOp
    generalize a11.eval = ev at *
    go_simp
  obtain ⟨a12, qa12⟩ : ∃ z_, z_ = a11.put (some 7) (.int .i64 ((upN la.length t * upN lb.length t : Nat) : Int)) := ⟨_, rfl⟩
  have k12 : Ev.Stay [118, 119, 120, 121, 122, 123, 124, 125, 126, 127, 6, 7, 8] a a12 := by rw [qa12]; exact k11.put (by decide) _
  have e12_11 := Ev.oth qa12 (by decide) e11_11
  have e12_1 := Ev.oth qa12 (by decide) e11_1
  have e12_2 := Ev.oth qa12 (by decide) e11_2
  have e12_9 := Ev.oth qa12 (by decide) e11_9
  have e12_118 := Ev.oth qa12 (by decide) e11_118
  have e12_127 := Ev.oth qa12 (by decide) e11_127
  have e12_6 := Ev.oth qa12 (by decide) e11_6
  have e12_7 := Ev.sam qa12 (by rw [k11.1, hsz]; decide)
  rw [← qa12]
  clear qa12 e11_11 e11_1 e11_2 e11_9 e11_118 e11_127 e11_6
  refine Ev.pv (N := 8) (v := .int .i64 (0)) (W' := (W.drewN n1).drewN n2) ?_ rfl rfl ?_
  · have ec0 : a12.eval (.const (.int .i64 (0))) = .int .i64 (0) := rfl
    unfold execOp
    generalize a12.eval = ev at *
    go_simp
  obtain ⟨a13, qa13⟩ : ∃ z_, z_ = a12.put (some 8) (.int .i64 (0)) := ⟨_, rfl⟩
  have k13 : Ev.Stay [118, 119, 120, 121, 122, 123, 124, 125, 126, 127, 6, 7, 8] a a13 := by rw [qa13]; exact k12.put (by decide) _
  have e13_11 := Ev.oth qa13 (by decide) e12_11
  have e13_1 := Ev.oth qa13 (by decide) e12_1
  have e13_2 := Ev.oth qa13 (by decide) e12_2
  have e13_9 := Ev.oth qa13 (by decide) e12_9
  have e13_118 := Ev.oth qa13 (by decide) e12_118
  have e13_127 := Ev.oth qa13 (by decide) e12_127
  have e13_6 := Ev.oth qa13 (by decide) e12_6
  have e13_7 := Ev.oth qa13 (by decide) e12_7
  have e13_8 := Ev.sam qa13 (by rw [k12.1, hsz]; decide)
  rw [← qa13]
  clear qa13 e12_11 e12_1 e12_2 e12_9 e12_118 e12_127 e12_6 e12_7
  have hq := hQ _ (n1 + n2) k13 e13_6 e13_7 e13_8
  rw [← World.drewN_drewN] at hq
  exact hq
end Go.Proofs.Ytpdjdffimighkaa.Tile
