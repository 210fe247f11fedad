/- The run of awake, third part: the script, the band, awake itself. -/
import Derived.Test.YtjkjanegankdhaaGreatZWTab
import Derived.Test.YtjkjanegankdhaaGreatZWLast
import Derived.Test.YtjkjanegankdhaaGreatZWWords
import Derived.Lib.SlBytesConst
import Derived.Test.YtjkjanegankdhaaGreatZHAwb
namespace Go.Proofs.YtjkjanegankdhaaGreat.Top
open Go.RowKit
set_option linter.unusedVariables false
set_option linter.unusedSimpArgs false
open Go.Proofs.YtjkjanegankdhaaGreatW.PrintLast Go.Proofs.YtjkjanegankdhaaGreatW.PrintLast
theorem Ev.same {a : Act} {N : Nat} {v : Value} (h : N < a.tmps.size) : (a.put (some N) v).eval (.tmp N) = v := by
  simp [Act.put, Act.eval, h]
theorem Ev.other {a : Act} {N M : Nat} {v : Value} (h : N ≠ M) : (a.put (some N) v).eval (.tmp M) = a.eval (.tmp M) := by
  simp [Act.put, Act.eval, Array.getElem?_setIfInBounds, h]
theorem Ev.size {a : Act} {d : Option Tmp} {v : Value} : (a.put d v).tmps.size = a.tmps.size := by
  cases d <;> simp [Act.put]
theorem Ev.wanted {ops : Array Oper} {a : Act} {o : Oper} (hg : o.guard = none) : Region.wanted o (yielded ops a.tmps) = true := by unfold Region.wanted; rw [hg]
/-- An act that kept the slots but for some, and its deferred calls. -/
def Ev.Stay (L : List Nat) (a a' : Act) : Prop := a'.tmps.size = a.tmps.size ∧ a'.defers = a.defers ∧ ∀ M, M ∉ L → a'.eval (.tmp M) = a.eval (.tmp M)
theorem Ev.Stay.refl (L : List Nat) (a : Act) : Ev.Stay L a a := ⟨rfl, rfl, fun _ _ => rfl⟩
theorem Ev.Stay.put {L : List Nat} {a a' : Act} {T : Nat} (h : Ev.Stay L a a') (hT : T ∈ L) (v : Value) : Ev.Stay L a (a'.put (some T) v) := by
  refine ⟨by rw [Ev.size]; exact h.1, h.2.1, fun M h2 => ?_⟩
  rw [Ev.other]
  · exact h.2.2 M h2
  · rintro rfl
    exact h2 hT
theorem Ev.Stay.trans {L L' L'' : List Nat} {a b c : Act} (h : Ev.Stay L a b) (k : Ev.Stay L' b c) (h1 : ∀ M, M ∈ L → M ∈ L'') (h2 : ∀ M, M ∈ L' → M ∈ L'') : Ev.Stay L'' a c := ⟨k.1.trans h.1, k.2.1.trans h.2.1, fun M q => (k.2.2 M (fun r => q (h2 M r))).trans (h.2.2 M (fun r => q (h1 M r)))⟩
section
variable {ops : Array Oper} {S : World → Prop} {a : Act} {o : Oper} {W W' : World} {K : Act → World → Prop} {Q : Exit → Act → World → Prop} {P : Program} {rest : List Oper}
theorem Ev.load {t : TypeId} {s : Operand} {p : Addr} {v : Value} (ho : o.op = .load t s) (hg : o.guard = none) (hs : a.eval s = .pointer (some p)) (hr : ∀ w, S w → (Instr.loadAt t (.pointer (some p))).run P w = .ok v w) : YieldsIf P ops S o v a := by
  refine Or.inl ⟨by unfold Region.wanted; rw [hg], fun w hw => ?_⟩
  unfold execOp
  rw [ho]
  simp only [hs, Sem.run_bind, hr w hw, Result.andThen_ok, Sem.run_pure]
theorem Ev.store {t : TypeId} {s x : Operand} {p : Addr} {v : Value} (ho : o.op = .store t s x) (hd : o.dst = none) (hs : a.eval s = .pointer (some p)) (hx : a.eval x = v) (hr : (Instr.storeAt t (.pointer (some p)) v).run P W = .ok () W') (h : K a W') : o.wp P a W K Q := by
  have e : (execOp a.eval o).run P W = .ok .skip W' := by
    unfold execOp
    rw [ho]
    simp only [hs, hx, Sem.run_bind, hr, Result.andThen_ok, Sem.run_pure]
  unfold Oper.wp
  rw [e]
  show K (a.put o.dst undef) W'
  rw [hd]; exact h
theorem Ev.made {N : Tmp} {v : Value} (hd : o.dst = some N) (hr : (execOp a.eval o).run P W = .ok (.value v) W') (h : K (a.put (some N) v) W') : o.wp P a W K Q := by
  unfold Oper.wp
  rw [hr]
  show K (a.put o.dst v) W'
  rw [hd]; exact h
theorem Ev.pv {N : Tmp} {v : Value} (hr : (execOp a.eval o).run P W = .ok (.value v) W') (hg : o.guard = none) (hd : o.dst = some N) (h : wpList P ops Q rest (a.put (some N) v) W') : wpList P ops Q (o :: rest) a W :=
  wpList_plain hg fun K hK => Ev.made hd hr (hK _ _ h)
theorem Ev.pk (hr : (execOp a.eval o).run P W = .ok .skip W') (hg : o.guard = none) (hd : o.dst = none) (h : wpList P ops Q rest a W') : wpList P ops Q (o :: rest) a W := by
  refine wpList_plain hg fun K hK => ?_
  unfold Oper.wp
  rw [hr]
  show K (a.put o.dst undef) W'
  rw [hd]; exact hK _ _ h
theorem Ev.pc {N : Tmp} {f : FuncId} {args : Array Value} (hr : (execOp a.eval o).run P W = .ok (.enter f args) W) (hg : o.guard = none) (hd : o.dst = some N) (hc : Calls P f args W (fun e w' => ∃ v, e = .returned v ∧ wpList P ops Q rest (a.put (some N) v) w')) : wpList P ops Q (o :: rest) a W := by
  refine wpList_plain hg fun K hK => ?_
  unfold Oper.wp
  rw [hr, Oper.upon_enter]
  refine hc.mono ?_
  rintro e w' ⟨v, rfl, h⟩
  show K (a.put o.dst v) w'
  rw [hd]; exact hK _ _ h
end
theorem Ev.loadW {P : Program} {ops : Array Oper} {S : World → Prop} {a : Act} {o : Oper} {t : TypeId} {s : Operand} {p : Addr} {v : Value} (hw : Region.wanted o (yielded ops a.tmps) = true) (ho : o.op = .load t s) (hs : a.eval s = .pointer (some p)) (hr : ∀ w, S w → (Instr.loadAt t (.pointer (some p))).run P w = .ok v w) : YieldsIf P ops S o v a := by
  refine Or.inl ⟨hw, fun w hw => ?_⟩
  unfold execOp
  rw [ho]
  simp only [hs, Sem.run_bind, hr w hw, Result.andThen_ok, Sem.run_pure]
theorem Rg.at0 {o : Oper} {l : List Oper} : (List.toArray (o :: l))[0]? = some o := rfl
theorem Rg.atS {o x : Oper} {l : List Oper} {i : Nat} (h : (List.toArray l)[i]? = some x) : (List.toArray (o :: l))[i + 1]? = some x := by simpa using h
theorem Rg.of {A B : Array Oper} {i : Nat} {x : Oper} (h : A = B) (hx : B[i]? = some x) : A[i]? = some x := by rw [h]; exact hx
theorem Ev.oth {a b : Act} {N M : Nat} {v x : Value} (q : b = a.put (some N) v) (h : N ≠ M) (e : a.eval (.tmp M) = x) : b.eval (.tmp M) = x := by rw [q, Ev.other h]; exact e
theorem Ev.sam {a b : Act} {N : Nat} {v : Value} (q : b = a.put (some N) v) (h : N < a.tmps.size) : b.eval (.tmp N) = v := by rw [q, Ev.same h]
theorem Ev.callK {a : Act} {o : Oper} {W : World} {K : Act → World → Prop} {Q : Exit → Act → World → Prop} {P : Program} {N : Tmp} {f : FuncId} {args : Array Value} (hr : (execOp a.eval o).run P W = .ok (.enter f args) W) (hd : o.dst = some N) (hc : Calls P f args W (fun e w' => ∃ v, e = .returned v ∧ K (a.put (some N) v) w')) : o.wp P a W K Q := by
  unfold Oper.wp
  rw [hr, Oper.upon_enter]
  refine hc.mono ?_
  rintro e w' ⟨v, rfl, h⟩
  show K (a.put o.dst v) w'
  rw [hd]; exact h
theorem Ev.load3 {W : World} {p : Addr} {v : Value} (hc : W.cell? p = some v) : (Instr.loadAt 3 (.pointer (some p))).run Tryz.prog W = .ok v W := by
  go_simp
theorem Ev.load38 {W : World} {p : Addr} {v : Value} (hc : W.cell? p = some v) : (Instr.loadAt 38 (.pointer (some p))).run Tryz.prog W = .ok v W := by
  go_simp
theorem Ev.load82 {W : World} {p : Addr} {v : Value} (hc : W.cell? p = some v) : (Instr.loadAt 82 (.pointer (some p))).run Tryz.prog W = .ok v W := by
  go_simp
set_option maxRecDepth 4096
theorem Ev.store38 {W : World} {p : Addr} {A : Option Addr} {n c : Nat} {u : Value} (hc : W.cell? p = some u) (hf : W.frozen? p = false) : (Instr.storeAt 38 (.pointer (some p)) (.slice A n c)).run Tryz.prog W = .ok () (W.setCell p (.slice A n c)) := by
  go_simp
noncomputable def Rg.body : Nat → Option Code
  | 113 => Tryz.f113.body
  | _ => none
noncomputable def Rg.ops (f k : Nat) : Array Oper := ((Rg.body f).bind fun c => opsIn c k).getD #[]
theorem info170 : ∃ i, Tryz.prog.info? 170 = some i ∧ i.zero = some (.agg #[.int .i64 0, .slice none 0 0, .slice none 0 0]) ∧ i.size = 3 ∧ i.bytes = 56 := by
  have h : (Tryz.prog.info? 170).map (fun i => (i.zero, i.size, i.bytes)) = some (some (.agg #[.int .i64 0, .slice none 0 0, .slice none 0 0]), 3, 56) := by kernel_rfl
  obtain ⟨i, hi, h0, h1, h2⟩ := info_parts h
  exact ⟨i, hi, h0, h1, h2⟩
theorem three_new {w : World} {x y z : Value} {t : TypeId} : ∀ j u, [x, y, z][j]? = some u → (w.alloc (.cells #[x, y, z] t)).cell? ((⟨w.heap.size, 0, none⟩ : Addr).add j) = some u := by
  intro j u hj
  have hb : (w.alloc (.cells #[x, y, z] t)).heap[w.heap.size]? = some (.cells #[x, y, z] t (0, 0)) := blk_new w _
  match j, hj with
  | 0, hj => simp at hj; subst hj; exact (blk_cell hb 0).trans rfl
  | 1, hj => simp at hj; subst hj; exact (blk_cell hb 1).trans rfl
  | 2, hj => simp at hj; subst hj; exact (blk_cell hb 2).trans rfl
  | j + 3, hj => simp at hj
theorem Ev.append1 {P : Program} {a : Act} {o : Oper} {W : World} {K : Act → World → Prop} {Q : Exit → Act → World → Prop} (s x : Operand) (t e : TypeId) (i : TypeInfo) (z : Value) (size bytes : Nat)
    (ho : o.op = .call { callee := .builtin .append, args := #[s, x], argTypes := #[t, t] }) (ht : P.underlying t = some (.slice e)) (hi : P.info? e = some i) (hz : i.zero = some z) (hs1 : i.size = size) (hs2 : i.bytes = bytes) (hzs : z.cells.size = size) (hsz : 0 < size)
    (base : Nat) (v : Value) (n : Nat) (xs : List Value) (hs : a.eval s = v) (hown : W.ownsRow base e size v n xs) (ad : Addr) (news : List Value) (hx : a.eval x = .slice (some ad) 1 1) (hl : news.length = 1 * size) (hu : ∀ j u, news[j]? = some u → W.cell? (ad.add j) = some u) (h1 : ∀ u ∈ news, u.oneCell' = true) (h63 : n + 1 ≤ maxLen) (hbytes : (n + 1) * bytes ≤ 140737488355328) (hbase : base ≤ W.heap.size)
    (h : ∀ v' w', w'.ownsRow base e size v' (n + 1) (xs ++ news) → W.grownBy w' v.ownBlock → K (a.put o.dst v') w') : o.wp P a W K Q := by
  obtain ⟨v', w', hr, h2, h3, h4, h5⟩ := run_append_own_at (P := P) W base t o.type e i z size bytes ht hi hz hs1 hs2 hzs hsz v n xs hown ad 1 1 news hl hu h1 h63 hbytes hbase
  unfold Oper.wp execOp
  simp only [ho, resolve, invoke, builtin, Sem.run_bind, Sem.run_pure, Result.andThen_ok, List.map_toArray, List.map_cons, List.map_nil, hs, hx, hr]
  exact h v' w' h2 h3
theorem Ev.made1 {P : Program} {a : Act} {o : Oper} {W W' : World} {K : Act → World → Prop} {Q : Exit → Act → World → Prop} {N : Tmp} {v : Value} (hd : o.dst = some N) (hr : (execOp a.eval o).run P W = .ok (.value v) W') (h : K (a.put (some N) v) W') : o.wp P a W K Q := Ev.made hd hr h
set_option maxHeartbeats 2000000 in
theorem Rg.h1 {id : Nat} {Q : Exit → Act → World → Prop} {a : Act} {W : World} {bi bj bs ba bb ra rb c1 c2 g0 c0 : Nat} {x : Int}
    (hsz : a.tmps.size = 36) (hP : ∀ c a a' w, a'.defers = a.defers → Q (.panic c) a w → Q (.panic c) a' w)  (h0 : a.eval (.tmp 0) = .int .i64 1) (h1 : a.eval (.tmp 1) = .int .i64 0) (h2 : a.eval (.tmp 2) = .pointer (some ⟨bi, 0, none⟩)) (h3 : a.eval (.tmp 3) = .pointer (some ⟨bj, 0, none⟩)) (h4 : a.eval (.tmp 4) = .pointer (some ⟨bs, 0, none⟩)) (h5 : a.eval (.tmp 5) = .pointer (some ⟨ba, 0, none⟩)) (h6 : a.eval (.tmp 6) = .pointer (some ⟨bb, 0, none⟩)) (hs : W.cell? ⟨bs, 0, none⟩ = some (.slice none 0 0)) (hfs : W.frozen? ⟨bs, 0, none⟩ = false) (hi : W.cell? ⟨bi, 0, none⟩ = some (.int .i64 0)) (hj : W.cell? ⟨bj, 0, none⟩ = some (.int .i64 0)) (ha : W.cell? ⟨ba, 0, none⟩ = some (.slice (some ⟨ra, 0, none⟩) 2 c1)) (hb : W.cell? ⟨bb, 0, none⟩ = some (.slice (some ⟨rb, 0, none⟩) 1 c2)) (t0 : W.cell? ⟨ra, 0, none⟩ = some (.slice (some ⟨g0, 0, none⟩) 1 c0)) (t1 : W.cell? ⟨g0, 0, none⟩ = some (.int .u8 x)) (lc1 : 2 ≤ c1) (lc2 : 1 ≤ c2)
    (hQ : ∀ a' w2 gv cv, Ev.Stay [17, 18, 19, 20, 21, 22, 23, 24, 25, 26, 27, 28, 29, 30, 31] a a' → Below W.heap.size W w2 → Q .normal a' (w2.setCell ⟨bs, 0, none⟩ (.slice (some ⟨gv, 0, none⟩) (0 + 1) cv))) : (Code.region id (Rg.ops 113 1) true).wp Tryz.prog Q a W := by
  have hops : Rg.ops 113 1 = List.toArray [_, _, _, _, _, _, _, _, _, _, _, _, _, _, _, _] := rfl
  refine start_ (S := fun w_ => Below W.heap.size W w_) (ds := [15]) #[false, false, false, false, false, false, false, false, false, false, false, false, false, false, false, false] (by kernel_rfl) (n := 16) rfl rfl ?S0 (fun hHeld => ?_)
  case S0 => exact (Below.refl W.heap.size W).drew
  have k0 : Ev.Stay [17, 18, 19, 20, 21, 22, 23, 24, 25, 26, 27, 28, 29, 30, 31] a a := Ev.Stay.refl [17, 18, 19, 20, 21, 22, 23, 24, 25, 26, 27, 28, 29, 30, 31] a
  refine take_ (i := 0) (N := some 17) (v := .slice none 0 0) #[true, false, false, false, false, false, false, false, false, false, false, false, false, false, false, false] (Rg.of hops Rg.at0) rfl (by kernel_rfl) (fun c _ _ h => hP c _ _ _ (by rfl) h) (Ev.loadW (Ev.wanted rfl) rfl h4 (fun w hw => Ev.load38 (cell_below hs hw))) hHeld rfl ?_
  obtain ⟨a1, qa1⟩ : ∃ z_, z_ = a.put (some 17) (.slice none 0 0) := ⟨_, rfl⟩
  have k1 : Ev.Stay [17, 18, 19, 20, 21, 22, 23, 24, 25, 26, 27, 28, 29, 30, 31] a a1 := by rw [qa1]; exact k0.put (by decide) _
  have e1_0 := Ev.oth qa1 (by decide) h0
  have e1_1 := Ev.oth qa1 (by decide) h1
  have e1_2 := Ev.oth qa1 (by decide) h2
  have e1_3 := Ev.oth qa1 (by decide) h3
  have e1_4 := Ev.oth qa1 (by decide) h4
  have e1_5 := Ev.oth qa1 (by decide) h5
  have e1_6 := Ev.oth qa1 (by decide) h6
  have e1_17 := Ev.sam qa1 (by rw [k0.1, hsz]; decide)
  rw [← qa1]
  clear qa1 
  refine take_ (i := 1) (N := some 18) (v := .int .i64 0) #[true, true, false, false, false, false, false, false, false, false, false, false, false, false, false, false] (Rg.of hops (Rg.atS Rg.at0)) rfl (by kernel_rfl) (fun c _ _ h => hP c _ _ _ (by rfl) h) (Ev.loadW (Ev.wanted rfl) rfl e1_2 (fun w hw => Ev.load3 (cell_below hi hw))) hHeld rfl ?_
  obtain ⟨a2, qa2⟩ : ∃ z_, z_ = a1.put (some 18) (.int .i64 0) := ⟨_, rfl⟩
  have k2 : Ev.Stay [17, 18, 19, 20, 21, 22, 23, 24, 25, 26, 27, 28, 29, 30, 31] a a2 := by rw [qa2]; exact k1.put (by decide) _
  have e2_0 := Ev.oth qa2 (by decide) e1_0
  have e2_1 := Ev.oth qa2 (by decide) e1_1
  have e2_2 := Ev.oth qa2 (by decide) e1_2
  have e2_3 := Ev.oth qa2 (by decide) e1_3
  have e2_4 := Ev.oth qa2 (by decide) e1_4
  have e2_5 := Ev.oth qa2 (by decide) e1_5
  have e2_6 := Ev.oth qa2 (by decide) e1_6
  have e2_17 := Ev.oth qa2 (by decide) e1_17
  have e2_18 := Ev.sam qa2 (by rw [k1.1, hsz]; decide)
  rw [← qa2]
  clear qa2 e1_0 e1_1 e1_2 e1_3 e1_4 e1_5 e1_6 e1_17
  refine take_ (i := 2) (N := some 19) (v := .slice (some ⟨ra, 0, none⟩) 2 c1) #[true, true, true, false, false, false, false, false, false, false, false, false, false, false, false, false] (Rg.of hops (Rg.atS (Rg.atS Rg.at0))) rfl (by kernel_rfl) (fun c _ _ h => hP c _ _ _ (by rfl) h) (Ev.loadW (Ev.wanted rfl) rfl e2_5 (fun w hw => Ev.load82 (cell_below ha hw))) hHeld rfl ?_
  obtain ⟨a3, qa3⟩ : ∃ z_, z_ = a2.put (some 19) (.slice (some ⟨ra, 0, none⟩) 2 c1) := ⟨_, rfl⟩
  have k3 : Ev.Stay [17, 18, 19, 20, 21, 22, 23, 24, 25, 26, 27, 28, 29, 30, 31] a a3 := by rw [qa3]; exact k2.put (by decide) _
  have e3_0 := Ev.oth qa3 (by decide) e2_0
  have e3_1 := Ev.oth qa3 (by decide) e2_1
  have e3_2 := Ev.oth qa3 (by decide) e2_2
  have e3_3 := Ev.oth qa3 (by decide) e2_3
  have e3_4 := Ev.oth qa3 (by decide) e2_4
  have e3_5 := Ev.oth qa3 (by decide) e2_5
  have e3_6 := Ev.oth qa3 (by decide) e2_6
  have e3_17 := Ev.oth qa3 (by decide) e2_17
  have e3_18 := Ev.oth qa3 (by decide) e2_18
  have e3_19 := Ev.sam qa3 (by rw [k2.1, hsz]; decide)
  rw [← qa3]
  clear qa3 e2_0 e2_1 e2_2 e2_3 e2_4 e2_5 e2_6 e2_17 e2_18
  refine take_ (i := 3) (N := some 20) (v := .int .i64 0) #[true, true, true, true, false, false, false, false, false, false, false, false, false, false, false, false] (Rg.of hops (Rg.atS (Rg.atS (Rg.atS Rg.at0)))) rfl (by kernel_rfl) (fun c _ _ h => hP c _ _ _ (by rfl) h) (Ev.loadW (Ev.wanted rfl) rfl e3_2 (fun w hw => Ev.load3 (cell_below hi hw))) hHeld rfl ?_
  obtain ⟨a4, qa4⟩ : ∃ z_, z_ = a3.put (some 20) (.int .i64 0) := ⟨_, rfl⟩
  have k4 : Ev.Stay [17, 18, 19, 20, 21, 22, 23, 24, 25, 26, 27, 28, 29, 30, 31] a a4 := by rw [qa4]; exact k3.put (by decide) _
  have e4_0 := Ev.oth qa4 (by decide) e3_0
  have e4_1 := Ev.oth qa4 (by decide) e3_1
  have e4_2 := Ev.oth qa4 (by decide) e3_2
  have e4_3 := Ev.oth qa4 (by decide) e3_3
  have e4_4 := Ev.oth qa4 (by decide) e3_4
  have e4_5 := Ev.oth qa4 (by decide) e3_5
  have e4_6 := Ev.oth qa4 (by decide) e3_6
  have e4_17 := Ev.oth qa4 (by decide) e3_17
  have e4_18 := Ev.oth qa4 (by decide) e3_18
  have e4_19 := Ev.oth qa4 (by decide) e3_19
  have e4_20 := Ev.sam qa4 (by rw [k3.1, hsz]; decide)
  rw [← qa4]
  clear qa4 e3_0 e3_1 e3_2 e3_3 e3_4 e3_5 e3_6 e3_17 e3_18 e3_19
  refine pure_ (i := 4) (N := some 21) (v := .int .i64 1) #[true, true, true, true, true, false, false, false, false, false, false, false, false, false, false, false] (Rg.of hops (Rg.atS (Rg.atS (Rg.atS (Rg.atS Rg.at0))))) rfl (by kernel_rfl) (fun c _ _ h => hP c _ _ _ (by rfl) h) (Or.inl ⟨Ev.wanted rfl, fun w_ => ?_⟩) rfl ?_
  · unfold execOp
    generalize a4.eval = ev at *
    go_simp
  obtain ⟨a5, qa5⟩ : ∃ z_, z_ = a4.put (some 21) (.int .i64 1) := ⟨_, rfl⟩
  have k5 : Ev.Stay [17, 18, 19, 20, 21, 22, 23, 24, 25, 26, 27, 28, 29, 30, 31] a a5 := by rw [qa5]; exact k4.put (by decide) _
  have e5_0 := Ev.oth qa5 (by decide) e4_0
  have e5_1 := Ev.oth qa5 (by decide) e4_1
  have e5_2 := Ev.oth qa5 (by decide) e4_2
  have e5_3 := Ev.oth qa5 (by decide) e4_3
  have e5_4 := Ev.oth qa5 (by decide) e4_4
  have e5_5 := Ev.oth qa5 (by decide) e4_5
  have e5_6 := Ev.oth qa5 (by decide) e4_6
  have e5_17 := Ev.oth qa5 (by decide) e4_17
  have e5_18 := Ev.oth qa5 (by decide) e4_18
  have e5_19 := Ev.oth qa5 (by decide) e4_19
  have e5_20 := Ev.oth qa5 (by decide) e4_20
  have e5_21 := Ev.sam qa5 (by rw [k4.1, hsz]; decide)
  rw [← qa5]
  clear qa5 e4_0 e4_1 e4_2 e4_3 e4_4 e4_5 e4_6 e4_17 e4_18 e4_19 e4_20
  refine pure_ (i := 5) (N := some 22) (v := .slice (some ⟨ra, 0, none⟩) 1 c1) #[true, true, true, true, true, true, false, false, false, false, false, false, false, false, false, false] (Rg.of hops (Rg.atS (Rg.atS (Rg.atS (Rg.atS (Rg.atS Rg.at0)))))) rfl (by kernel_rfl) (fun c _ _ h => hP c _ _ _ (by rfl) h) (Or.inl ⟨Ev.wanted rfl, fun w_ => ?_⟩) rfl ?_
  · have p1_ : (1 : Int) ≤ (c1 : Int) := by omega
    have p2_ : ¬ c1 = 0 := by omega
    unfold execOp
    generalize a5.eval = ev at *
    go_simp
  obtain ⟨a6, qa6⟩ : ∃ z_, z_ = a5.put (some 22) (.slice (some ⟨ra, 0, none⟩) 1 c1) := ⟨_, rfl⟩
  have k6 : Ev.Stay [17, 18, 19, 20, 21, 22, 23, 24, 25, 26, 27, 28, 29, 30, 31] a a6 := by rw [qa6]; exact k5.put (by decide) _
  have e6_0 := Ev.oth qa6 (by decide) e5_0
  have e6_1 := Ev.oth qa6 (by decide) e5_1
  have e6_2 := Ev.oth qa6 (by decide) e5_2
  have e6_3 := Ev.oth qa6 (by decide) e5_3
  have e6_4 := Ev.oth qa6 (by decide) e5_4
  have e6_5 := Ev.oth qa6 (by decide) e5_5
  have e6_6 := Ev.oth qa6 (by decide) e5_6
  have e6_17 := Ev.oth qa6 (by decide) e5_17
  have e6_18 := Ev.oth qa6 (by decide) e5_18
  have e6_19 := Ev.oth qa6 (by decide) e5_19
  have e6_20 := Ev.oth qa6 (by decide) e5_20
  have e6_21 := Ev.oth qa6 (by decide) e5_21
  have e6_22 := Ev.sam qa6 (by rw [k5.1, hsz]; decide)
  rw [← qa6]
  clear qa6 e5_0 e5_1 e5_2 e5_3 e5_4 e5_5 e5_6 e5_17 e5_18 e5_19 e5_20 e5_21
  clear e6_19
  clear e6_20
  clear e6_21
  refine take_ (i := 7) (N := some 24) (v := .slice (some ⟨rb, 0, none⟩) 1 c2) #[true, true, true, true, true, true, false, true, false, false, false, false, false, false, false, false] (Rg.of hops (Rg.atS (Rg.atS (Rg.atS (Rg.atS (Rg.atS (Rg.atS (Rg.atS Rg.at0)))))))) rfl (by kernel_rfl) (fun c _ _ h => hP c _ _ _ (by rfl) h) (Ev.loadW (Ev.wanted rfl) rfl e6_6 (fun w hw => Ev.load82 (cell_below hb hw))) hHeld rfl ?_
  obtain ⟨a7, qa7⟩ : ∃ z_, z_ = a6.put (some 24) (.slice (some ⟨rb, 0, none⟩) 1 c2) := ⟨_, rfl⟩
  have k7 : Ev.Stay [17, 18, 19, 20, 21, 22, 23, 24, 25, 26, 27, 28, 29, 30, 31] a a7 := by rw [qa7]; exact k6.put (by decide) _
  have e7_0 := Ev.oth qa7 (by decide) e6_0
  have e7_1 := Ev.oth qa7 (by decide) e6_1
  have e7_2 := Ev.oth qa7 (by decide) e6_2
  have e7_3 := Ev.oth qa7 (by decide) e6_3
  have e7_4 := Ev.oth qa7 (by decide) e6_4
  have e7_5 := Ev.oth qa7 (by decide) e6_5
  have e7_6 := Ev.oth qa7 (by decide) e6_6
  have e7_17 := Ev.oth qa7 (by decide) e6_17
  have e7_18 := Ev.oth qa7 (by decide) e6_18
  have e7_22 := Ev.oth qa7 (by decide) e6_22
  have e7_24 := Ev.sam qa7 (by rw [k6.1, hsz]; decide)
  rw [← qa7]
  clear qa7 e6_0 e6_1 e6_2 e6_3 e6_4 e6_5 e6_6 e6_17 e6_18 e6_22
  refine take_ (i := 8) (N := some 25) (v := .int .i64 0) #[true, true, true, true, true, true, false, true, true, false, false, false, false, false, false, false] (Rg.of hops (Rg.atS (Rg.atS (Rg.atS (Rg.atS (Rg.atS (Rg.atS (Rg.atS (Rg.atS Rg.at0))))))))) rfl (by kernel_rfl) (fun c _ _ h => hP c _ _ _ (by rfl) h) (Ev.loadW (Ev.wanted rfl) rfl e7_3 (fun w hw => Ev.load3 (cell_below hj hw))) hHeld rfl ?_
  obtain ⟨a8, qa8⟩ : ∃ z_, z_ = a7.put (some 25) (.int .i64 0) := ⟨_, rfl⟩
  have k8 : Ev.Stay [17, 18, 19, 20, 21, 22, 23, 24, 25, 26, 27, 28, 29, 30, 31] a a8 := by rw [qa8]; exact k7.put (by decide) _
  have e8_0 := Ev.oth qa8 (by decide) e7_0
  have e8_1 := Ev.oth qa8 (by decide) e7_1
  have e8_2 := Ev.oth qa8 (by decide) e7_2
  have e8_3 := Ev.oth qa8 (by decide) e7_3
  have e8_4 := Ev.oth qa8 (by decide) e7_4
  have e8_5 := Ev.oth qa8 (by decide) e7_5
  have e8_6 := Ev.oth qa8 (by decide) e7_6
  have e8_17 := Ev.oth qa8 (by decide) e7_17
  have e8_18 := Ev.oth qa8 (by decide) e7_18
  have e8_22 := Ev.oth qa8 (by decide) e7_22
  have e8_24 := Ev.oth qa8 (by decide) e7_24
  have e8_25 := Ev.sam qa8 (by rw [k7.1, hsz]; decide)
  rw [← qa8]
  clear qa8 e7_0 e7_1 e7_2 e7_3 e7_4 e7_5 e7_6 e7_17 e7_18 e7_22 e7_24
  refine pure_ (i := 9) (N := some 26) (v := .int .i64 0) #[true, true, true, true, true, true, false, true, true, true, false, false, false, false, false, false] (Rg.of hops (Rg.atS (Rg.atS (Rg.atS (Rg.atS (Rg.atS (Rg.atS (Rg.atS (Rg.atS (Rg.atS Rg.at0)))))))))) rfl (by kernel_rfl) (fun c _ _ h => hP c _ _ _ (by rfl) h) (Or.inl ⟨Ev.wanted rfl, fun w_ => ?_⟩) rfl ?_
  · unfold execOp
    generalize a8.eval = ev at *
    go_simp
  obtain ⟨a9, qa9⟩ : ∃ z_, z_ = a8.put (some 26) (.int .i64 0) := ⟨_, rfl⟩
  have k9 : Ev.Stay [17, 18, 19, 20, 21, 22, 23, 24, 25, 26, 27, 28, 29, 30, 31] a a9 := by rw [qa9]; exact k8.put (by decide) _
  have e9_0 := Ev.oth qa9 (by decide) e8_0
  have e9_1 := Ev.oth qa9 (by decide) e8_1
  have e9_2 := Ev.oth qa9 (by decide) e8_2
  have e9_3 := Ev.oth qa9 (by decide) e8_3
  have e9_4 := Ev.oth qa9 (by decide) e8_4
  have e9_5 := Ev.oth qa9 (by decide) e8_5
  have e9_6 := Ev.oth qa9 (by decide) e8_6
  have e9_17 := Ev.oth qa9 (by decide) e8_17
  have e9_18 := Ev.oth qa9 (by decide) e8_18
  have e9_22 := Ev.oth qa9 (by decide) e8_22
  have e9_24 := Ev.oth qa9 (by decide) e8_24
  have e9_25 := Ev.oth qa9 (by decide) e8_25
  have e9_26 := Ev.sam qa9 (by rw [k8.1, hsz]; decide)
  rw [← qa9]
  clear qa9 e8_0 e8_1 e8_2 e8_3 e8_4 e8_5 e8_6 e8_17 e8_18 e8_22 e8_24 e8_25
  refine pure_ (i := 10) (N := some 27) (v := .slice (some ⟨rb, 0, none⟩) 0 c2) #[true, true, true, true, true, true, false, true, true, true, true, false, false, false, false, false] (Rg.of hops (Rg.atS (Rg.atS (Rg.atS (Rg.atS (Rg.atS (Rg.atS (Rg.atS (Rg.atS (Rg.atS (Rg.atS Rg.at0))))))))))) rfl (by kernel_rfl) (fun c _ _ h => hP c _ _ _ (by rfl) h) (Or.inl ⟨Ev.wanted rfl, fun w_ => ?_⟩) rfl ?_
  · have p2_ : ¬ c2 = 0 := by omega
    have p3_ : (0 : Int) ≤ (c2 : Int) := by omega
    unfold execOp
    generalize a9.eval = ev at *
    go_simp
  obtain ⟨a10, qa10⟩ : ∃ z_, z_ = a9.put (some 27) (.slice (some ⟨rb, 0, none⟩) 0 c2) := ⟨_, rfl⟩
  have k10 : Ev.Stay [17, 18, 19, 20, 21, 22, 23, 24, 25, 26, 27, 28, 29, 30, 31] a a10 := by rw [qa10]; exact k9.put (by decide) _
  have e10_0 := Ev.oth qa10 (by decide) e9_0
  have e10_1 := Ev.oth qa10 (by decide) e9_1
  have e10_2 := Ev.oth qa10 (by decide) e9_2
  have e10_3 := Ev.oth qa10 (by decide) e9_3
  have e10_4 := Ev.oth qa10 (by decide) e9_4
  have e10_5 := Ev.oth qa10 (by decide) e9_5
  have e10_6 := Ev.oth qa10 (by decide) e9_6
  have e10_17 := Ev.oth qa10 (by decide) e9_17
  have e10_18 := Ev.oth qa10 (by decide) e9_18
  have e10_22 := Ev.oth qa10 (by decide) e9_22
  have e10_24 := Ev.oth qa10 (by decide) e9_24
  have e10_25 := Ev.oth qa10 (by decide) e9_25
  have e10_26 := Ev.oth qa10 (by decide) e9_26
  have e10_27 := Ev.sam qa10 (by rw [k9.1, hsz]; decide)
  rw [← qa10]
  clear qa10 e9_0 e9_1 e9_2 e9_3 e9_4 e9_5 e9_6 e9_17 e9_18 e9_22 e9_24 e9_25 e9_26
  clear e10_24
  clear e10_25
  clear e10_26
  have H0 := hHeld
  refine one_ (i := 6) (N := some 23) #[true, true, true, true, true, true, true, true, true, true, true, false, false, false, false, false] (Rg.of hops (Rg.atS (Rg.atS (Rg.atS (Rg.atS (Rg.atS (Rg.atS Rg.at0))))))) rfl (by kernel_rfl) (by decide) (fun K hK => ?_)
  rw [if_pos (Ev.wanted rfl)]
  refine Ev.callK (N := 23) (f := 114) (args := #[.slice (some ⟨ra, 0, none⟩) 1 c1]) ?_ rfl ((tokens_one _ ra c1 g0 c0 x (cell_below t0 hHeld) (cell_below t1 hHeld)).mono ?_)
  · have ef : a10.eval (.func 114) = .func (.func 114) #[] #[] := rfl
    unfold execOp
    generalize a10.eval = ev at *
    go_simp
  rintro e_ w1 ⟨v1, rfl, ⟨A1, C1, rfl⟩, hb1⟩
  refine ⟨_, rfl, ?_⟩
  refine hK.out _ _ (below_both hHeld hb1) (fun hHeld => ?_)
  clear hK K
  obtain ⟨a11, qa11⟩ : ∃ z_, z_ = a10.put (some 23) (.slice A1 1 C1) := ⟨_, rfl⟩
  have k11 : Ev.Stay [17, 18, 19, 20, 21, 22, 23, 24, 25, 26, 27, 28, 29, 30, 31] a a11 := by rw [qa11]; exact k10.put (by decide) _
  have e11_0 := Ev.oth qa11 (by decide) e10_0
  have e11_1 := Ev.oth qa11 (by decide) e10_1
  have e11_2 := Ev.oth qa11 (by decide) e10_2
  have e11_3 := Ev.oth qa11 (by decide) e10_3
  have e11_4 := Ev.oth qa11 (by decide) e10_4
  have e11_5 := Ev.oth qa11 (by decide) e10_5
  have e11_6 := Ev.oth qa11 (by decide) e10_6
  have e11_17 := Ev.oth qa11 (by decide) e10_17
  have e11_18 := Ev.oth qa11 (by decide) e10_18
  have e11_22 := Ev.oth qa11 (by decide) e10_22
  have e11_27 := Ev.oth qa11 (by decide) e10_27
  have e11_23 := Ev.sam qa11 (by rw [k10.1, hsz]; decide)
  rw [← qa11]
  clear qa11 e10_0 e10_1 e10_2 e10_3 e10_4 e10_5 e10_6 e10_17 e10_18 e10_22 e10_27
  clear e11_22
  refine one_ (i := 11) (N := some 28) #[true, true, true, true, true, true, true, true, true, true, true, true, false, false, false, false] (Rg.of hops (Rg.atS (Rg.atS (Rg.atS (Rg.atS (Rg.atS (Rg.atS (Rg.atS (Rg.atS (Rg.atS (Rg.atS (Rg.atS Rg.at0)))))))))))) rfl (by kernel_rfl) (by decide) (fun K hK => ?_)
  rw [if_pos (Ev.wanted rfl)]
  refine Ev.callK (N := 28) (f := 114) (args := #[.slice (some ⟨rb, 0, none⟩) 0 c2]) ?_ rfl ((tokens_none _ _ c2).mono ?_)
  · have ef : a11.eval (.func 114) = .func (.func 114) #[] #[] := rfl
    unfold execOp
    generalize a11.eval = ev at *
    go_simp
  rintro e_ w2 ⟨rfl, hq⟩
  have hq := hq.symm
  subst hq
  refine ⟨_, rfl, ?_⟩
  refine hK.out _ _ (hHeld) (fun hHeld => ?_)
  clear hK K
  obtain ⟨a12, qa12⟩ : ∃ z_, z_ = a11.put (some 28) (.slice none 0 0) := ⟨_, rfl⟩
  have k12 : Ev.Stay [17, 18, 19, 20, 21, 22, 23, 24, 25, 26, 27, 28, 29, 30, 31] a a12 := by rw [qa12]; exact k11.put (by decide) _
  have e12_0 := Ev.oth qa12 (by decide) e11_0
  have e12_1 := Ev.oth qa12 (by decide) e11_1
  have e12_2 := Ev.oth qa12 (by decide) e11_2
  have e12_3 := Ev.oth qa12 (by decide) e11_3
  have e12_4 := Ev.oth qa12 (by decide) e11_4
  have e12_5 := Ev.oth qa12 (by decide) e11_5
  have e12_6 := Ev.oth qa12 (by decide) e11_6
  have e12_17 := Ev.oth qa12 (by decide) e11_17
  have e12_18 := Ev.oth qa12 (by decide) e11_18
  have e12_27 := Ev.oth qa12 (by decide) e11_27
  have e12_23 := Ev.oth qa12 (by decide) e11_23
  have e12_28 := Ev.sam qa12 (by rw [k11.1, hsz]; decide)
  rw [← qa12]
  clear qa12 e11_0 e11_1 e11_2 e11_3 e11_4 e11_5 e11_6 e11_17 e11_18 e11_27 e11_23
  clear e12_27
  refine pure_ (i := 12) (N := some 29) (v := .agg #[.int .i64 0, .slice A1 1 C1, .slice none 0 0]) #[true, true, true, true, true, true, true, true, true, true, true, true, true, false, false, false] (Rg.of hops (Rg.atS (Rg.atS (Rg.atS (Rg.atS (Rg.atS (Rg.atS (Rg.atS (Rg.atS (Rg.atS (Rg.atS (Rg.atS (Rg.atS Rg.at0))))))))))))) rfl (by kernel_rfl) (fun c _ _ h => hP c _ _ _ (by rfl) h) (Or.inl ⟨Ev.wanted rfl, fun w_ => ?_⟩) rfl ?_
  · unfold execOp
    generalize a12.eval = ev at *
    go_simp
  obtain ⟨a13, qa13⟩ : ∃ z_, z_ = a12.put (some 29) (.agg #[.int .i64 0, .slice A1 1 C1, .slice none 0 0]) := ⟨_, rfl⟩
  have k13 : Ev.Stay [17, 18, 19, 20, 21, 22, 23, 24, 25, 26, 27, 28, 29, 30, 31] a a13 := by rw [qa13]; exact k12.put (by decide) _
  have e13_0 := Ev.oth qa13 (by decide) e12_0
  have e13_1 := Ev.oth qa13 (by decide) e12_1
  have e13_2 := Ev.oth qa13 (by decide) e12_2
  have e13_3 := Ev.oth qa13 (by decide) e12_3
  have e13_4 := Ev.oth qa13 (by decide) e12_4
  have e13_5 := Ev.oth qa13 (by decide) e12_5
  have e13_6 := Ev.oth qa13 (by decide) e12_6
  have e13_17 := Ev.oth qa13 (by decide) e12_17
  have e13_18 := Ev.oth qa13 (by decide) e12_18
  have e13_23 := Ev.oth qa13 (by decide) e12_23
  have e13_28 := Ev.oth qa13 (by decide) e12_28
  have e13_29 := Ev.sam qa13 (by rw [k12.1, hsz]; decide)
  rw [← qa13]
  clear qa13 e12_0 e12_1 e12_2 e12_3 e12_4 e12_5 e12_6 e12_17 e12_18 e12_23 e12_28
  clear e13_18
  clear e13_23
  clear e13_28
  refine one_ (i := 13) (N := some 30) #[true, true, true, true, true, true, true, true, true, true, true, true, true, true, false, false] (Rg.of hops (Rg.atS (Rg.atS (Rg.atS (Rg.atS (Rg.atS (Rg.atS (Rg.atS (Rg.atS (Rg.atS (Rg.atS (Rg.atS (Rg.atS (Rg.atS Rg.at0)))))))))))))) rfl (by kernel_rfl) (by decide) (fun K hK => ?_)
  rw [if_pos (Ev.wanted rfl)]
  refine Ev.made1 (N := 30) (v := .slice (some ⟨w1.heap.size, 0, none⟩) 1 1) (W' := w1.alloc (.cells #[.int .i64 0, .slice A1 1 C1, .slice none 0 0] 170)) rfl ?_ ?_
  · unfold execOp
    generalize a13.eval = ev at *
    go_simp
  refine hK.out _ _ (hHeld.alloc hHeld.size _) (fun hHeld2 => ?_)
  clear hK K
  obtain ⟨a14, qa14⟩ : ∃ z_, z_ = a13.put (some 30) (.slice (some ⟨w1.heap.size, 0, none⟩) 1 1) := ⟨_, rfl⟩
  have k14 : Ev.Stay [17, 18, 19, 20, 21, 22, 23, 24, 25, 26, 27, 28, 29, 30, 31] a a14 := by rw [qa14]; exact k13.put (by decide) _
  have e14_0 := Ev.oth qa14 (by decide) e13_0
  have e14_1 := Ev.oth qa14 (by decide) e13_1
  have e14_2 := Ev.oth qa14 (by decide) e13_2
  have e14_3 := Ev.oth qa14 (by decide) e13_3
  have e14_4 := Ev.oth qa14 (by decide) e13_4
  have e14_5 := Ev.oth qa14 (by decide) e13_5
  have e14_6 := Ev.oth qa14 (by decide) e13_6
  have e14_17 := Ev.oth qa14 (by decide) e13_17
  have e14_29 := Ev.oth qa14 (by decide) e13_29
  have e14_30 := Ev.sam qa14 (by rw [k13.1, hsz]; decide)
  rw [← qa14]
  clear qa14 e13_0 e13_1 e13_2 e13_3 e13_4 e13_5 e13_6 e13_17 e13_29
  clear e14_29
  refine one_ (i := 14) (N := some 31) #[true, true, true, true, true, true, true, true, true, true, true, true, true, true, true, false] (Rg.of hops (Rg.atS (Rg.atS (Rg.atS (Rg.atS (Rg.atS (Rg.atS (Rg.atS (Rg.atS (Rg.atS (Rg.atS (Rg.atS (Rg.atS (Rg.atS (Rg.atS Rg.at0))))))))))))))) rfl (by kernel_rfl) (by decide) (fun K hK => ?_)
  rw [if_pos (Ev.wanted rfl)]
  obtain ⟨i, hi_, hz_, hs_, hb_⟩ := info170
  refine Ev.append1 (.tmp 17) (.tmp 30) 38 170 i _ 3 56 rfl Tryz.underlying38 hi_ hz_ hs_ hb_ rfl (by decide) W.heap.size (.slice none 0 0) 0 [] e14_17 (World.ownsRow_nil _ _ _ _) ⟨w1.heap.size, 0, none⟩ [.int .i64 0, .slice A1 1 C1, .slice none 0 0] e14_30 rfl three_new (by simp [Value.oneCell']) (by unfold maxLen; omega) (by omega) hHeld2.size ?_
  intro v w2 ho hg
  obtain ⟨gv, cv, rfl⟩ := own_form ho (by decide)
  have hH3 : Below W.heap.size W w2 := hHeld2.grown hg hHeld2.size (fun k hk => by simp [Value.ownBlock] at hk)
  have HO := Sd.mk ho
  refine hK.out _ _ hH3 (fun hHeld3 => ?_)
  clear hK K ho hg
  obtain ⟨a15, qa15⟩ : ∃ z_, z_ = a14.put (some 31) (.slice (some ⟨gv, 0, none⟩) (0 + 1) cv) := ⟨_, rfl⟩
  have k15 : Ev.Stay [17, 18, 19, 20, 21, 22, 23, 24, 25, 26, 27, 28, 29, 30, 31] a a15 := by rw [qa15]; exact k14.put (by decide) _
  have e15_0 := Ev.oth qa15 (by decide) e14_0
  have e15_1 := Ev.oth qa15 (by decide) e14_1
  have e15_2 := Ev.oth qa15 (by decide) e14_2
  have e15_3 := Ev.oth qa15 (by decide) e14_3
  have e15_4 := Ev.oth qa15 (by decide) e14_4
  have e15_5 := Ev.oth qa15 (by decide) e14_5
  have e15_6 := Ev.oth qa15 (by decide) e14_6
  have e15_17 := Ev.oth qa15 (by decide) e14_17
  have e15_30 := Ev.oth qa15 (by decide) e14_30
  have e15_31 := Ev.sam qa15 (by rw [k14.1, hsz]; decide)
  rw [← qa15]
  clear qa15 e14_0 e14_1 e14_2 e14_3 e14_4 e14_5 e14_6 e14_17 e14_30
  clear e15_17
  clear e15_30
  have hc_ := cell_below hs hH3
  have hf_ : w2.frozen? ⟨bs, 0, none⟩ = false := (hH3.frozen (p := ⟨bs, 0, none⟩) (World.block_lt_of_cell? W _ hs)).trans hfs
  refine last_ (i := 15) (N := none) #[true, true, true, true, true, true, true, true, true, true, true, true, true, true, true, true] (Rg.of hops (Rg.atS (Rg.atS (Rg.atS (Rg.atS (Rg.atS (Rg.atS (Rg.atS (Rg.atS (Rg.atS (Rg.atS (Rg.atS (Rg.atS (Rg.atS (Rg.atS (Rg.atS Rg.at0)))))))))))))))) rfl (by kernel_rfl) (by decide) (fun K hK => ?_)
  rw [if_pos (Ev.wanted rfl)]
  refine Ev.store rfl rfl e15_4 e15_31 (Ev.store38 hc_ hf_) ?_
  refine hK.out _ _ ?_
  refine done_ (by kernel_rfl) ?_
  exact hQ _ _ _ _ k15 hH3
open Go.Proofs.YtjkjanegankdhaaGreatW.PrintLast
theorem Ev.wantedIs {ops : Array Oper} {a : Act} {o o' : Oper} {i N : Nat} {c d : Bool} (hg : o.guard = some (i, c)) (ho : ops[i]? = some o') (hd : o'.dst = some N) (he : a.eval (.tmp N) = .bool d) : Region.wanted o (yielded ops a.tmps) = (d == c) := by
  have h : a.tmps[N]? = some (.bool d) := by
    have he' : a.tmps.getD N undef = .bool d := he
    rw [Array.getD_eq_getD_getElem?] at he'
    cases h : a.tmps[N]? with
    | none => rw [h] at he'; cases he'
    | some v => rw [h] at he'; rw [show v = .bool d from he']
  unfold Region.wanted yielded
  rw [hg]
  cases c <;> cases d <;> simp [ho, hd, h]
theorem Ev.pvG {ops : Array Oper} {a : Act} {o : Oper} {W W' : World} {Q : Exit → Act → World → Prop} {P : Program} {rest : List Oper} {N : Tmp} {v : Value} (hr : (execOp a.eval o).run P W = .ok (.value v) W') (hg : Region.wanted o (yielded ops a.tmps) = true) (hd : o.dst = some N) (h : wpList P ops Q rest (a.put (some N) v) W') : wpList P ops Q (o :: rest) a W :=
  wpList_step fun K hK => by rw [if_pos hg]; exact Ev.made hd hr (hK _ _ h)
theorem Ev.skip {ops : Array Oper} {a : Act} {o : Oper} {W : World} {Q : Exit → Act → World → Prop} {P : Program} {rest : List Oper} {N : Tmp} (hg : Region.wanted o (yielded ops a.tmps) = false) (hd : o.dst = some N) (h : wpList P ops Q rest (a.put (some N) undef) W) : wpList P ops Q (o :: rest) a W :=
  wpList_step fun K hK => by
    rw [if_neg (by rw [hg]; decide), hd]; exact hK _ _ h
theorem Ev.entry {args : Array Value} {n i : Nat} {v : Value} (h : args[i]? = some v) : ({ tmps := args ++ Array.replicate n undef, defers := [] } : Act).eval (.tmp i) = v := by
  have hlt : i < args.size := (Array.getElem?_eq_some_iff.1 h).1
  show (args ++ Array.replicate n undef).getD i undef = v
  rw [Array.getD_eq_getD_getElem?, Array.getElem?_append_left hlt, h]
  rfl
set_option maxHeartbeats 2000000 in
theorem Rg.h0a {id : Nat} {Q : Exit → Act → World → Prop} {a : Act} {W : World} {bi bj : Nat}
    (hsz : a.tmps.size = 36)  (h0 : a.eval (.tmp 0) = .int .i64 1) (h1 : a.eval (.tmp 1) = .int .i64 0) (h2 : a.eval (.tmp 2) = .pointer (some ⟨bi, 0, none⟩)) (h3 : a.eval (.tmp 3) = .pointer (some ⟨bj, 0, none⟩)) (hi : W.cell? ⟨bi, 0, none⟩ = some (.int .i64 0)) (hj : W.cell? ⟨bj, 0, none⟩ = some (.int .i64 0))
    (hQ : ∀ a', Ev.Stay [9, 10, 11, 12, 13, 14, 15, 16] a a' → a'.eval (.tmp 16) = .bool true → Q .normal a' W) : (Code.region id (Rg.ops 113 0) false).wp Tryz.prog Q a W := by
  have hops : Rg.ops 113 0 = List.toArray [_, _, _, _, _, _, _, _] := rfl
  refine wp_region_list ?_
  show wpList _ _ _ (_ :: _ :: _ :: _ :: _ :: _ :: _ :: _ :: []) _ _
  have k0 : Ev.Stay [9, 10, 11, 12, 13, 14, 15, 16] a a := Ev.Stay.refl [9, 10, 11, 12, 13, 14, 15, 16] a
  refine Ev.pv (N := 9) (v := .int .i64 0) (W' := W) ?_ rfl rfl ?_
  · unfold execOp
    generalize a.eval = ev at *
    go_simp
  obtain ⟨a1, qa1⟩ : ∃ z_, z_ = a.put (some 9) (.int .i64 0) := ⟨_, rfl⟩
  have k1 : Ev.Stay [9, 10, 11, 12, 13, 14, 15, 16] a a1 := by rw [qa1]; exact k0.put (by decide) _
  have e1_0 := Ev.oth qa1 (by decide) h0
  have e1_1 := Ev.oth qa1 (by decide) h1
  have e1_2 := Ev.oth qa1 (by decide) h2
  have e1_3 := Ev.oth qa1 (by decide) h3
  have e1_9 := Ev.sam qa1 (by rw [k0.1, hsz]; decide)
  rw [← qa1]
  clear qa1 
  refine Ev.pv (N := 10) (v := .int .i64 1) (W' := W) ?_ rfl rfl ?_
  · unfold execOp
    generalize a1.eval = ev at *
    go_simp
  obtain ⟨a2, qa2⟩ : ∃ z_, z_ = a1.put (some 10) (.int .i64 1) := ⟨_, rfl⟩
  have k2 : Ev.Stay [9, 10, 11, 12, 13, 14, 15, 16] a a2 := by rw [qa2]; exact k1.put (by decide) _
  have e2_0 := Ev.oth qa2 (by decide) e1_0
  have e2_1 := Ev.oth qa2 (by decide) e1_1
  have e2_2 := Ev.oth qa2 (by decide) e1_2
  have e2_3 := Ev.oth qa2 (by decide) e1_3
  have e2_9 := Ev.oth qa2 (by decide) e1_9
  have e2_10 := Ev.sam qa2 (by rw [k1.1, hsz]; decide)
  rw [← qa2]
  clear qa2 e1_0 e1_1 e1_2 e1_3 e1_9
  refine Ev.pv (N := 11) (v := .bool true) (W' := W) ?_ rfl rfl ?_
  · unfold execOp
    generalize a2.eval = ev at *
    go_simp
  obtain ⟨a3, qa3⟩ : ∃ z_, z_ = a2.put (some 11) (.bool true) := ⟨_, rfl⟩
  have k3 : Ev.Stay [9, 10, 11, 12, 13, 14, 15, 16] a a3 := by rw [qa3]; exact k2.put (by decide) _
  have e3_0 := Ev.oth qa3 (by decide) e2_0
  have e3_1 := Ev.oth qa3 (by decide) e2_1
  have e3_2 := Ev.oth qa3 (by decide) e2_2
  have e3_3 := Ev.oth qa3 (by decide) e2_3
  have e3_9 := Ev.oth qa3 (by decide) e2_9
  have e3_10 := Ev.oth qa3 (by decide) e2_10
  have e3_11 := Ev.sam qa3 (by rw [k2.1, hsz]; decide)
  rw [← qa3]
  clear qa3 e2_0 e2_1 e2_2 e2_3 e2_9 e2_10
  clear e3_9
  clear e3_10
  refine Ev.pv (N := 12) (v := .bool true) (W' := W) ?_ rfl rfl ?_
  · unfold execOp
    generalize a3.eval = ev at *
    go_simp
  obtain ⟨a4, qa4⟩ : ∃ z_, z_ = a3.put (some 12) (.bool true) := ⟨_, rfl⟩
  have k4 : Ev.Stay [9, 10, 11, 12, 13, 14, 15, 16] a a4 := by rw [qa4]; exact k3.put (by decide) _
  have e4_0 := Ev.oth qa4 (by decide) e3_0
  have e4_1 := Ev.oth qa4 (by decide) e3_1
  have e4_2 := Ev.oth qa4 (by decide) e3_2
  have e4_3 := Ev.oth qa4 (by decide) e3_3
  have e4_11 := Ev.oth qa4 (by decide) e3_11
  have e4_12 := Ev.sam qa4 (by rw [k3.1, hsz]; decide)
  rw [← qa4]
  clear qa4 e3_0 e3_1 e3_2 e3_3 e3_11
  clear e4_11
  refine Ev.skip (N := 13) ((Ev.wantedIs rfl (Rg.of hops (Rg.atS (Rg.atS (Rg.atS Rg.at0)))) rfl e4_12).trans rfl) rfl ?_
  obtain ⟨a5, qa5⟩ : ∃ z_, z_ = a4.put (some 13) (undef) := ⟨_, rfl⟩
  have k5 : Ev.Stay [9, 10, 11, 12, 13, 14, 15, 16] a a5 := by rw [qa5]; exact k4.put (by decide) _
  have e5_0 := Ev.oth qa5 (by decide) e4_0
  have e5_1 := Ev.oth qa5 (by decide) e4_1
  have e5_2 := Ev.oth qa5 (by decide) e4_2
  have e5_3 := Ev.oth qa5 (by decide) e4_3
  have e5_12 := Ev.oth qa5 (by decide) e4_12
  have e5_13 := Ev.sam qa5 (by rw [k4.1, hsz]; decide)
  rw [← qa5]
  clear qa5 e4_0 e4_1 e4_2 e4_3 e4_12
  clear e5_13
  refine Ev.skip (N := 14) ((Ev.wantedIs rfl (Rg.of hops (Rg.atS (Rg.atS (Rg.atS Rg.at0)))) rfl e5_12).trans rfl) rfl ?_
  obtain ⟨a6, qa6⟩ : ∃ z_, z_ = a5.put (some 14) (undef) := ⟨_, rfl⟩
  have k6 : Ev.Stay [9, 10, 11, 12, 13, 14, 15, 16] a a6 := by rw [qa6]; exact k5.put (by decide) _
  have e6_0 := Ev.oth qa6 (by decide) e5_0
  have e6_1 := Ev.oth qa6 (by decide) e5_1
  have e6_2 := Ev.oth qa6 (by decide) e5_2
  have e6_3 := Ev.oth qa6 (by decide) e5_3
  have e6_12 := Ev.oth qa6 (by decide) e5_12
  have e6_14 := Ev.sam qa6 (by rw [k5.1, hsz]; decide)
  rw [← qa6]
  clear qa6 e5_0 e5_1 e5_2 e5_3 e5_12
  clear e6_14
  refine Ev.skip (N := 15) ((Ev.wantedIs rfl (Rg.of hops (Rg.atS (Rg.atS (Rg.atS Rg.at0)))) rfl e6_12).trans rfl) rfl ?_
  obtain ⟨a7, qa7⟩ : ∃ z_, z_ = a6.put (some 15) (undef) := ⟨_, rfl⟩
  have k7 : Ev.Stay [9, 10, 11, 12, 13, 14, 15, 16] a a7 := by rw [qa7]; exact k6.put (by decide) _
  have e7_0 := Ev.oth qa7 (by decide) e6_0
  have e7_1 := Ev.oth qa7 (by decide) e6_1
  have e7_2 := Ev.oth qa7 (by decide) e6_2
  have e7_3 := Ev.oth qa7 (by decide) e6_3
  have e7_12 := Ev.oth qa7 (by decide) e6_12
  have e7_15 := Ev.sam qa7 (by rw [k6.1, hsz]; decide)
  rw [← qa7]
  clear qa7 e6_0 e6_1 e6_2 e6_3 e6_12
  clear e7_15
  refine Ev.pv (N := 16) (v := .bool true) (W' := W) ?_ rfl rfl ?_
  · have ec0 : a7.eval (.const (.bool true)) = .bool true := rfl
    unfold execOp
    generalize a7.eval = ev at *
    go_simp
  obtain ⟨a8, qa8⟩ : ∃ z_, z_ = a7.put (some 16) (.bool true) := ⟨_, rfl⟩
  have k8 : Ev.Stay [9, 10, 11, 12, 13, 14, 15, 16] a a8 := by rw [qa8]; exact k7.put (by decide) _
  have e8_0 := Ev.oth qa8 (by decide) e7_0
  have e8_1 := Ev.oth qa8 (by decide) e7_1
  have e8_2 := Ev.oth qa8 (by decide) e7_2
  have e8_3 := Ev.oth qa8 (by decide) e7_3
  have e8_12 := Ev.oth qa8 (by decide) e7_12
  have e8_16 := Ev.sam qa8 (by rw [k7.1, hsz]; decide)
  rw [← qa8]
  clear qa8 e7_0 e7_1 e7_2 e7_3 e7_12
  exact hQ _ k8 e8_16
set_option maxHeartbeats 2000000 in
theorem Rg.h0b {id : Nat} {Q : Exit → Act → World → Prop} {a : Act} {W : World} {bi bj : Nat}
    (hsz : a.tmps.size = 36)  (h0 : a.eval (.tmp 0) = .int .i64 2) (h1 : a.eval (.tmp 1) = .int .i64 1) (h2 : a.eval (.tmp 2) = .pointer (some ⟨bi, 0, none⟩)) (h3 : a.eval (.tmp 3) = .pointer (some ⟨bj, 0, none⟩)) (hi : W.cell? ⟨bi, 0, none⟩ = some (.int .i64 2)) (hj : W.cell? ⟨bj, 0, none⟩ = some (.int .i64 1))
    (hQ : ∀ a', Ev.Stay [9, 10, 11, 12, 13, 14, 15, 16] a a' → a'.eval (.tmp 16) = .bool false → Q .normal a' W) : (Code.region id (Rg.ops 113 0) false).wp Tryz.prog Q a W := by
  have hops : Rg.ops 113 0 = List.toArray [_, _, _, _, _, _, _, _] := rfl
  refine wp_region_list ?_
  show wpList _ _ _ (_ :: _ :: _ :: _ :: _ :: _ :: _ :: _ :: []) _ _
  have k0 : Ev.Stay [9, 10, 11, 12, 13, 14, 15, 16] a a := Ev.Stay.refl [9, 10, 11, 12, 13, 14, 15, 16] a
  refine Ev.pv (N := 9) (v := .int .i64 2) (W' := W) ?_ rfl rfl ?_
  · unfold execOp
    generalize a.eval = ev at *
    go_simp
  obtain ⟨a1, qa1⟩ : ∃ z_, z_ = a.put (some 9) (.int .i64 2) := ⟨_, rfl⟩
  have k1 : Ev.Stay [9, 10, 11, 12, 13, 14, 15, 16] a a1 := by rw [qa1]; exact k0.put (by decide) _
  have e1_0 := Ev.oth qa1 (by decide) h0
  have e1_1 := Ev.oth qa1 (by decide) h1
  have e1_2 := Ev.oth qa1 (by decide) h2
  have e1_3 := Ev.oth qa1 (by decide) h3
  have e1_9 := Ev.sam qa1 (by rw [k0.1, hsz]; decide)
  rw [← qa1]
  clear qa1 
  refine Ev.pv (N := 10) (v := .int .i64 2) (W' := W) ?_ rfl rfl ?_
  · unfold execOp
    generalize a1.eval = ev at *
    go_simp
  obtain ⟨a2, qa2⟩ : ∃ z_, z_ = a1.put (some 10) (.int .i64 2) := ⟨_, rfl⟩
  have k2 : Ev.Stay [9, 10, 11, 12, 13, 14, 15, 16] a a2 := by rw [qa2]; exact k1.put (by decide) _
  have e2_0 := Ev.oth qa2 (by decide) e1_0
  have e2_1 := Ev.oth qa2 (by decide) e1_1
  have e2_2 := Ev.oth qa2 (by decide) e1_2
  have e2_3 := Ev.oth qa2 (by decide) e1_3
  have e2_9 := Ev.oth qa2 (by decide) e1_9
  have e2_10 := Ev.sam qa2 (by rw [k1.1, hsz]; decide)
  rw [← qa2]
  clear qa2 e1_0 e1_1 e1_2 e1_3 e1_9
  refine Ev.pv (N := 11) (v := .bool false) (W' := W) ?_ rfl rfl ?_
  · unfold execOp
    generalize a2.eval = ev at *
    go_simp
  obtain ⟨a3, qa3⟩ : ∃ z_, z_ = a2.put (some 11) (.bool false) := ⟨_, rfl⟩
  have k3 : Ev.Stay [9, 10, 11, 12, 13, 14, 15, 16] a a3 := by rw [qa3]; exact k2.put (by decide) _
  have e3_0 := Ev.oth qa3 (by decide) e2_0
  have e3_1 := Ev.oth qa3 (by decide) e2_1
  have e3_2 := Ev.oth qa3 (by decide) e2_2
  have e3_3 := Ev.oth qa3 (by decide) e2_3
  have e3_9 := Ev.oth qa3 (by decide) e2_9
  have e3_10 := Ev.oth qa3 (by decide) e2_10
  have e3_11 := Ev.sam qa3 (by rw [k2.1, hsz]; decide)
  rw [← qa3]
  clear qa3 e2_0 e2_1 e2_2 e2_3 e2_9 e2_10
  clear e3_9
  clear e3_10
  refine Ev.pv (N := 12) (v := .bool false) (W' := W) ?_ rfl rfl ?_
  · unfold execOp
    generalize a3.eval = ev at *
    go_simp
  obtain ⟨a4, qa4⟩ : ∃ z_, z_ = a3.put (some 12) (.bool false) := ⟨_, rfl⟩
  have k4 : Ev.Stay [9, 10, 11, 12, 13, 14, 15, 16] a a4 := by rw [qa4]; exact k3.put (by decide) _
  have e4_0 := Ev.oth qa4 (by decide) e3_0
  have e4_1 := Ev.oth qa4 (by decide) e3_1
  have e4_2 := Ev.oth qa4 (by decide) e3_2
  have e4_3 := Ev.oth qa4 (by decide) e3_3
  have e4_11 := Ev.oth qa4 (by decide) e3_11
  have e4_12 := Ev.sam qa4 (by rw [k3.1, hsz]; decide)
  rw [← qa4]
  clear qa4 e3_0 e3_1 e3_2 e3_3 e3_11
  clear e4_11
  refine Ev.pvG (N := 13) (v := .int .i64 1) (W' := W) ?_ ((Ev.wantedIs rfl (Rg.of hops (Rg.atS (Rg.atS (Rg.atS Rg.at0)))) rfl e4_12).trans rfl) rfl ?_
  · unfold execOp
    generalize a4.eval = ev at *
    go_simp
  obtain ⟨a5, qa5⟩ : ∃ z_, z_ = a4.put (some 13) (.int .i64 1) := ⟨_, rfl⟩
  have k5 : Ev.Stay [9, 10, 11, 12, 13, 14, 15, 16] a a5 := by rw [qa5]; exact k4.put (by decide) _
  have e5_0 := Ev.oth qa5 (by decide) e4_0
  have e5_1 := Ev.oth qa5 (by decide) e4_1
  have e5_2 := Ev.oth qa5 (by decide) e4_2
  have e5_3 := Ev.oth qa5 (by decide) e4_3
  have e5_12 := Ev.oth qa5 (by decide) e4_12
  have e5_13 := Ev.sam qa5 (by rw [k4.1, hsz]; decide)
  rw [← qa5]
  clear qa5 e4_0 e4_1 e4_2 e4_3 e4_12
  refine Ev.pvG (N := 14) (v := .int .i64 1) (W' := W) ?_ ((Ev.wantedIs rfl (Rg.of hops (Rg.atS (Rg.atS (Rg.atS Rg.at0)))) rfl e5_12).trans rfl) rfl ?_
  · unfold execOp
    generalize a5.eval = ev at *
    go_simp
  obtain ⟨a6, qa6⟩ : ∃ z_, z_ = a5.put (some 14) (.int .i64 1) := ⟨_, rfl⟩
  have k6 : Ev.Stay [9, 10, 11, 12, 13, 14, 15, 16] a a6 := by rw [qa6]; exact k5.put (by decide) _
  have e6_0 := Ev.oth qa6 (by decide) e5_0
  have e6_1 := Ev.oth qa6 (by decide) e5_1
  have e6_2 := Ev.oth qa6 (by decide) e5_2
  have e6_3 := Ev.oth qa6 (by decide) e5_3
  have e6_12 := Ev.oth qa6 (by decide) e5_12
  have e6_13 := Ev.oth qa6 (by decide) e5_13
  have e6_14 := Ev.sam qa6 (by rw [k5.1, hsz]; decide)
  rw [← qa6]
  clear qa6 e5_0 e5_1 e5_2 e5_3 e5_12 e5_13
  refine Ev.pvG (N := 15) (v := .bool false) (W' := W) ?_ ((Ev.wantedIs rfl (Rg.of hops (Rg.atS (Rg.atS (Rg.atS Rg.at0)))) rfl e6_12).trans rfl) rfl ?_
  · unfold execOp
    generalize a6.eval = ev at *
    go_simp
  obtain ⟨a7, qa7⟩ : ∃ z_, z_ = a6.put (some 15) (.bool false) := ⟨_, rfl⟩
  have k7 : Ev.Stay [9, 10, 11, 12, 13, 14, 15, 16] a a7 := by rw [qa7]; exact k6.put (by decide) _
  have e7_0 := Ev.oth qa7 (by decide) e6_0
  have e7_1 := Ev.oth qa7 (by decide) e6_1
  have e7_2 := Ev.oth qa7 (by decide) e6_2
  have e7_3 := Ev.oth qa7 (by decide) e6_3
  have e7_12 := Ev.oth qa7 (by decide) e6_12
  have e7_13 := Ev.oth qa7 (by decide) e6_13
  have e7_14 := Ev.oth qa7 (by decide) e6_14
  have e7_15 := Ev.sam qa7 (by rw [k6.1, hsz]; decide)
  rw [← qa7]
  clear qa7 e6_0 e6_1 e6_2 e6_3 e6_12 e6_13 e6_14
  clear e7_13
  clear e7_14
  refine Ev.pv (N := 16) (v := .bool false) (W' := W) ?_ rfl rfl ?_
  · have ec0 : a7.eval (.const (.bool true)) = .bool true := rfl
    unfold execOp
    generalize a7.eval = ev at *
    go_simp
  obtain ⟨a8, qa8⟩ : ∃ z_, z_ = a7.put (some 16) (.bool false) := ⟨_, rfl⟩
  have k8 : Ev.Stay [9, 10, 11, 12, 13, 14, 15, 16] a a8 := by rw [qa8]; exact k7.put (by decide) _
  have e8_0 := Ev.oth qa8 (by decide) e7_0
  have e8_1 := Ev.oth qa8 (by decide) e7_1
  have e8_2 := Ev.oth qa8 (by decide) e7_2
  have e8_3 := Ev.oth qa8 (by decide) e7_3
  have e8_12 := Ev.oth qa8 (by decide) e7_12
  have e8_15 := Ev.oth qa8 (by decide) e7_15
  have e8_16 := Ev.sam qa8 (by rw [k7.1, hsz]; decide)
  rw [← qa8]
  clear qa8 e7_0 e7_1 e7_2 e7_3 e7_12 e7_15
  exact hQ _ k8 e8_16
set_option maxHeartbeats 2000000 in
theorem Rg.h2a {id : Nat} {Q : Exit → Act → World → Prop} {a : Act} {W : World} {bi bj : Nat} {ui uj : Value}
    (hsz : a.tmps.size = 36)  (h0 : a.eval (.tmp 0) = .int .i64 1) (h1 : a.eval (.tmp 1) = .int .i64 0) (h2 : a.eval (.tmp 2) = .pointer (some ⟨bi, 0, none⟩)) (h3 : a.eval (.tmp 3) = .pointer (some ⟨bj, 0, none⟩)) (hi : W.cell? ⟨bi, 0, none⟩ = some ui ∧ W.frozen? ⟨bi, 0, none⟩ = false) (hj : (W.setCell ⟨bi, 0, none⟩ (.int .i64 2)).cell? ⟨bj, 0, none⟩ = some uj ∧ (W.setCell ⟨bi, 0, none⟩ (.int .i64 2)).frozen? ⟨bj, 0, none⟩ = false)
    (hQ : ∀ a', Ev.Stay [32, 33, 34, 35] a a' → Q .normal a' ((W.setCell ⟨bi, 0, none⟩ (.int .i64 2)).setCell ⟨bj, 0, none⟩ (.int .i64 1))) : (Code.region id (Rg.ops 113 2) false).wp Tryz.prog Q a W := by
  refine wp_region_list ?_
  show wpList _ _ _ (_ :: _ :: _ :: _ :: _ :: _ :: []) _ _
  have k0 : Ev.Stay [32, 33, 34, 35] a a := Ev.Stay.refl [32, 33, 34, 35] a
  refine Ev.pv (N := 32) (v := .int .i64 1) (W' := W) ?_ rfl rfl ?_
  · unfold execOp
    generalize a.eval = ev at *
    go_simp
  obtain ⟨a1, qa1⟩ : ∃ z_, z_ = a.put (some 32) (.int .i64 1) := ⟨_, rfl⟩
  have k1 : Ev.Stay [32, 33, 34, 35] a a1 := by rw [qa1]; exact k0.put (by decide) _
  have e1_0 := Ev.oth qa1 (by decide) h0
  have e1_1 := Ev.oth qa1 (by decide) h1
  have e1_2 := Ev.oth qa1 (by decide) h2
  have e1_3 := Ev.oth qa1 (by decide) h3
  have e1_32 := Ev.sam qa1 (by rw [k0.1, hsz]; decide)
  rw [← qa1]
  clear qa1 
  refine Ev.pv (N := 33) (v := .int .i64 2) (W' := W) ?_ rfl rfl ?_
  · have ec0 : a1.eval (.const (.int .i64 1)) = .int .i64 1 := rfl
    unfold execOp
    generalize a1.eval = ev at *
    (go_simp; first | rfl | decide)
  obtain ⟨a2, qa2⟩ : ∃ z_, z_ = a1.put (some 33) (.int .i64 2) := ⟨_, rfl⟩
  have k2 : Ev.Stay [32, 33, 34, 35] a a2 := by rw [qa2]; exact k1.put (by decide) _
  have e2_0 := Ev.oth qa2 (by decide) e1_0
  have e2_1 := Ev.oth qa2 (by decide) e1_1
  have e2_2 := Ev.oth qa2 (by decide) e1_2
  have e2_3 := Ev.oth qa2 (by decide) e1_3
  have e2_32 := Ev.oth qa2 (by decide) e1_32
  have e2_33 := Ev.sam qa2 (by rw [k1.1, hsz]; decide)
  rw [← qa2]
  clear qa2 e1_0 e1_1 e1_2 e1_3 e1_32
  clear e2_32
  refine Ev.pv (N := 34) (v := .int .i64 0) (W' := W) ?_ rfl rfl ?_
  · unfold execOp
    generalize a2.eval = ev at *
    go_simp
  obtain ⟨a3, qa3⟩ : ∃ z_, z_ = a2.put (some 34) (.int .i64 0) := ⟨_, rfl⟩
  have k3 : Ev.Stay [32, 33, 34, 35] a a3 := by rw [qa3]; exact k2.put (by decide) _
  have e3_0 := Ev.oth qa3 (by decide) e2_0
  have e3_1 := Ev.oth qa3 (by decide) e2_1
  have e3_2 := Ev.oth qa3 (by decide) e2_2
  have e3_3 := Ev.oth qa3 (by decide) e2_3
  have e3_33 := Ev.oth qa3 (by decide) e2_33
  have e3_34 := Ev.sam qa3 (by rw [k2.1, hsz]; decide)
  rw [← qa3]
  clear qa3 e2_0 e2_1 e2_2 e2_3 e2_33
  refine Ev.pv (N := 35) (v := .int .i64 1) (W' := W) ?_ rfl rfl ?_
  · have ec0 : a3.eval (.const (.int .i64 1)) = .int .i64 1 := rfl
    unfold execOp
    generalize a3.eval = ev at *
    (go_simp; first | rfl | decide)
  obtain ⟨a4, qa4⟩ : ∃ z_, z_ = a3.put (some 35) (.int .i64 1) := ⟨_, rfl⟩
  have k4 : Ev.Stay [32, 33, 34, 35] a a4 := by rw [qa4]; exact k3.put (by decide) _
  have e4_0 := Ev.oth qa4 (by decide) e3_0
  have e4_1 := Ev.oth qa4 (by decide) e3_1
  have e4_2 := Ev.oth qa4 (by decide) e3_2
  have e4_3 := Ev.oth qa4 (by decide) e3_3
  have e4_33 := Ev.oth qa4 (by decide) e3_33
  have e4_34 := Ev.oth qa4 (by decide) e3_34
  have e4_35 := Ev.sam qa4 (by rw [k3.1, hsz]; decide)
  rw [← qa4]
  clear qa4 e3_0 e3_1 e3_2 e3_3 e3_33 e3_34
  clear e4_34
  refine Ev.pk (W' := W.setCell ⟨bi, 0, none⟩ (.int .i64 2)) ?_ rfl rfl ?_
  · have hc_ := hi.1
    have hf_ := hi.2
    clear hi hj
    unfold execOp
    generalize a4.eval = ev at *
    go_simp
  refine Ev.pk (W' := (W.setCell ⟨bi, 0, none⟩ (.int .i64 2)).setCell ⟨bj, 0, none⟩ (.int .i64 1)) ?_ rfl rfl ?_
  · have hc_ := hj.1
    have hf_ := hj.2
    clear hi hj
    unfold execOp
    generalize a4.eval = ev at *
    go_simp
  exact hQ _ k4
set_option maxHeartbeats 2000000 in
theorem Rg.h2b {id : Nat} {Q : Exit → Act → World → Prop} {a : Act} {W : World} {bi bj : Nat} {ui uj : Value}
    (hsz : a.tmps.size = 36)  (h0 : a.eval (.tmp 0) = .int .i64 2) (h1 : a.eval (.tmp 1) = .int .i64 1) (h2 : a.eval (.tmp 2) = .pointer (some ⟨bi, 0, none⟩)) (h3 : a.eval (.tmp 3) = .pointer (some ⟨bj, 0, none⟩)) (hi : W.cell? ⟨bi, 0, none⟩ = some ui ∧ W.frozen? ⟨bi, 0, none⟩ = false) (hj : (W.setCell ⟨bi, 0, none⟩ (.int .i64 3)).cell? ⟨bj, 0, none⟩ = some uj ∧ (W.setCell ⟨bi, 0, none⟩ (.int .i64 3)).frozen? ⟨bj, 0, none⟩ = false)
    (hQ : ∀ a', Ev.Stay [32, 33, 34, 35] a a' → Q .normal a' ((W.setCell ⟨bi, 0, none⟩ (.int .i64 3)).setCell ⟨bj, 0, none⟩ (.int .i64 2))) : (Code.region id (Rg.ops 113 2) false).wp Tryz.prog Q a W := by
  refine wp_region_list ?_
  show wpList _ _ _ (_ :: _ :: _ :: _ :: _ :: _ :: []) _ _
  have k0 : Ev.Stay [32, 33, 34, 35] a a := Ev.Stay.refl [32, 33, 34, 35] a
  refine Ev.pv (N := 32) (v := .int .i64 2) (W' := W) ?_ rfl rfl ?_
  · unfold execOp
    generalize a.eval = ev at *
    go_simp
  obtain ⟨a1, qa1⟩ : ∃ z_, z_ = a.put (some 32) (.int .i64 2) := ⟨_, rfl⟩
  have k1 : Ev.Stay [32, 33, 34, 35] a a1 := by rw [qa1]; exact k0.put (by decide) _
  have e1_0 := Ev.oth qa1 (by decide) h0
  have e1_1 := Ev.oth qa1 (by decide) h1
  have e1_2 := Ev.oth qa1 (by decide) h2
  have e1_3 := Ev.oth qa1 (by decide) h3
  have e1_32 := Ev.sam qa1 (by rw [k0.1, hsz]; decide)
  rw [← qa1]
  clear qa1 
  refine Ev.pv (N := 33) (v := .int .i64 3) (W' := W) ?_ rfl rfl ?_
  · have ec0 : a1.eval (.const (.int .i64 1)) = .int .i64 1 := rfl
    unfold execOp
    generalize a1.eval = ev at *
    (go_simp; first | rfl | decide)
  obtain ⟨a2, qa2⟩ : ∃ z_, z_ = a1.put (some 33) (.int .i64 3) := ⟨_, rfl⟩
  have k2 : Ev.Stay [32, 33, 34, 35] a a2 := by rw [qa2]; exact k1.put (by decide) _
  have e2_0 := Ev.oth qa2 (by decide) e1_0
  have e2_1 := Ev.oth qa2 (by decide) e1_1
  have e2_2 := Ev.oth qa2 (by decide) e1_2
  have e2_3 := Ev.oth qa2 (by decide) e1_3
  have e2_32 := Ev.oth qa2 (by decide) e1_32
  have e2_33 := Ev.sam qa2 (by rw [k1.1, hsz]; decide)
  rw [← qa2]
  clear qa2 e1_0 e1_1 e1_2 e1_3 e1_32
  clear e2_32
  refine Ev.pv (N := 34) (v := .int .i64 1) (W' := W) ?_ rfl rfl ?_
  · unfold execOp
    generalize a2.eval = ev at *
    go_simp
  obtain ⟨a3, qa3⟩ : ∃ z_, z_ = a2.put (some 34) (.int .i64 1) := ⟨_, rfl⟩
  have k3 : Ev.Stay [32, 33, 34, 35] a a3 := by rw [qa3]; exact k2.put (by decide) _
  have e3_0 := Ev.oth qa3 (by decide) e2_0
  have e3_1 := Ev.oth qa3 (by decide) e2_1
  have e3_2 := Ev.oth qa3 (by decide) e2_2
  have e3_3 := Ev.oth qa3 (by decide) e2_3
  have e3_33 := Ev.oth qa3 (by decide) e2_33
  have e3_34 := Ev.sam qa3 (by rw [k2.1, hsz]; decide)
  rw [← qa3]
  clear qa3 e2_0 e2_1 e2_2 e2_3 e2_33
  refine Ev.pv (N := 35) (v := .int .i64 2) (W' := W) ?_ rfl rfl ?_
  · have ec0 : a3.eval (.const (.int .i64 1)) = .int .i64 1 := rfl
    unfold execOp
    generalize a3.eval = ev at *
    (go_simp; first | rfl | decide)
  obtain ⟨a4, qa4⟩ : ∃ z_, z_ = a3.put (some 35) (.int .i64 2) := ⟨_, rfl⟩
  have k4 : Ev.Stay [32, 33, 34, 35] a a4 := by rw [qa4]; exact k3.put (by decide) _
  have e4_0 := Ev.oth qa4 (by decide) e3_0
  have e4_1 := Ev.oth qa4 (by decide) e3_1
  have e4_2 := Ev.oth qa4 (by decide) e3_2
  have e4_3 := Ev.oth qa4 (by decide) e3_3
  have e4_33 := Ev.oth qa4 (by decide) e3_33
  have e4_34 := Ev.oth qa4 (by decide) e3_34
  have e4_35 := Ev.sam qa4 (by rw [k3.1, hsz]; decide)
  rw [← qa4]
  clear qa4 e3_0 e3_1 e3_2 e3_3 e3_33 e3_34
  clear e4_34
  refine Ev.pk (W' := W.setCell ⟨bi, 0, none⟩ (.int .i64 3)) ?_ rfl rfl ?_
  · have hc_ := hi.1
    have hf_ := hi.2
    clear hi hj
    unfold execOp
    generalize a4.eval = ev at *
    go_simp
  refine Ev.pk (W' := (W.setCell ⟨bi, 0, none⟩ (.int .i64 3)).setCell ⟨bj, 0, none⟩ (.int .i64 2)) ?_ rfl rfl ?_
  · have hc_ := hj.1
    have hf_ := hj.2
    clear hi hj
    unfold execOp
    generalize a4.eval = ev at *
    go_simp
  exact hQ _ k4
noncomputable def Rg.code113 : Code := .seq (.seq (.region 0 (Rg.ops 113 0) false) (.cond (.tmp 16) (.region 1 (Rg.ops 113 1) true) .skip)) (.region 2 (Rg.ops 113 2) false)
set_option maxRecDepth 100000 in
set_option maxHeartbeats 2000000 in
theorem hunk_a (w : World) {bi bj bs ba bb ra rb c1 c2 g0 c0 : Nat} {x : Int} (hs : w.cell? ⟨bs, 0, none⟩ = some (.slice none 0 0)) (hfs : w.frozen? ⟨bs, 0, none⟩ = false) (hi : w.cell? ⟨bi, 0, none⟩ = some (.int .i64 0)) (hj : w.cell? ⟨bj, 0, none⟩ = some (.int .i64 0)) (ha : w.cell? ⟨ba, 0, none⟩ = some (.slice (some ⟨ra, 0, none⟩) 2 c1)) (hb : w.cell? ⟨bb, 0, none⟩ = some (.slice (some ⟨rb, 0, none⟩) 1 c2)) (t0 : w.cell? ⟨ra, 0, none⟩ = some (.slice (some ⟨g0, 0, none⟩) 1 c0)) (t1 : w.cell? ⟨g0, 0, none⟩ = some (.int .u8 x)) (lc1 : 2 ≤ c1) (lc2 : 1 ≤ c2) (hfi : w.frozen? ⟨bi, 0, none⟩ = false) (hfj : w.frozen? ⟨bj, 0, none⟩ = false) (nis : bs ≠ bi) (njs : bs ≠ bj) (nij : bi ≠ bj) :
    Calls Tryz.prog 113 #[.int .i64 1, .int .i64 0, .pointer (some ⟨bi, 0, none⟩), .pointer (some ⟨bj, 0, none⟩), .pointer (some ⟨bs, 0, none⟩), .pointer (some ⟨ba, 0, none⟩), .pointer (some ⟨bb, 0, none⟩)] w fun e w' => e = .returned (.tuple #[]) ∧ ∃ gv cv w2, Below w.heap.size w w2 ∧ w' = ((w2.setCell ⟨bs, 0, none⟩ (.slice (some ⟨gv, 0, none⟩) (0 + 1) cv)).setCell ⟨bi, 0, none⟩ (.int .i64 2)).setCell ⟨bj, 0, none⟩ (.int .i64 1) := by
  refine calls_of_wp Tryz.func113 rfl ?_
  show Rg.code113.wp _ _ _ _
  generalize hR : (fun (e : Ending) (w' : World) => e = .returned (.tuple #[]) ∧ ∃ gv cv w2, Below w.heap.size w w2 ∧ w' = ((w2.setCell ⟨bs, 0, none⟩ (.slice (some ⟨gv, 0, none⟩) (0 + 1) cv)).setCell ⟨bi, 0, none⟩ (.int .i64 2)).setCell ⟨bj, 0, none⟩ (.int .i64 1)) = R
  have hP : ∀ c (a a' : Act) (w : World), a'.defers = a.defers → bodyPost Tryz.prog Tryz.f113 R (.panic c) a w → bodyPost Tryz.prog Tryz.f113 R (.panic c) a' w := fun c a a' w hd h => ⟨hd.trans h.1, h.2⟩
  obtain ⟨a0, ha0⟩ : ∃ a0 : Act, a0 = { tmps := #[.int .i64 1, .int .i64 0, .pointer (some ⟨bi, 0, none⟩), .pointer (some ⟨bj, 0, none⟩), .pointer (some ⟨bs, 0, none⟩), .pointer (some ⟨ba, 0, none⟩), .pointer (some ⟨bb, 0, none⟩)] ++ Array.replicate (Tryz.f113.ntmps - (#[.int .i64 1, .int .i64 0, .pointer (some ⟨bi, 0, none⟩), .pointer (some ⟨bj, 0, none⟩), .pointer (some ⟨bs, 0, none⟩), .pointer (some ⟨ba, 0, none⟩), .pointer (some ⟨bb, 0, none⟩)] : Array Value).size) undef, defers := [] } := ⟨_, rfl⟩
  have hsz : a0.tmps.size = 36 := by rw [ha0]; simp [Tryz.ntmps113]
  have e0 : a0.eval (.tmp 0) = .int .i64 1 := by rw [ha0]; exact Ev.entry rfl
  have e1 : a0.eval (.tmp 1) = .int .i64 0 := by rw [ha0]; exact Ev.entry rfl
  have e2 : a0.eval (.tmp 2) = .pointer (some ⟨bi, 0, none⟩) := by rw [ha0]; exact Ev.entry rfl
  have e3 : a0.eval (.tmp 3) = .pointer (some ⟨bj, 0, none⟩) := by rw [ha0]; exact Ev.entry rfl
  have e4 : a0.eval (.tmp 4) = .pointer (some ⟨bs, 0, none⟩) := by rw [ha0]; exact Ev.entry rfl
  have e5 : a0.eval (.tmp 5) = .pointer (some ⟨ba, 0, none⟩) := by rw [ha0]; exact Ev.entry rfl
  have e6 : a0.eval (.tmp 6) = .pointer (some ⟨bb, 0, none⟩) := by rw [ha0]; exact Ev.entry rfl
  have hd0 : a0.defers = [] := by rw [ha0]
  rw [← ha0]
  clear ha0
  refine wp_seq (wp_seq (Rg.h0a hsz e0 e1 e2 e3 hi hj ?_))
  intro a1 k1 e16
  refine wp_cond_true e16 ?_
  have o := fun M (h : M ∉ [9, 10, 11, 12, 13, 14, 15, 16]) => k1.2.2 M h
  refine Rg.h1 (k1.1.trans hsz) (fun c a a' w hd h => hP c a a' w hd h) ((o 0 (by decide)).trans e0) ((o 1 (by decide)).trans e1) ((o 2 (by decide)).trans e2) ((o 3 (by decide)).trans e3) ((o 4 (by decide)).trans e4) ((o 5 (by decide)).trans e5) ((o 6 (by decide)).trans e6) hs hfs hi hj ha hb t0 t1 lc1 lc2 ?_
  intro a2 w2 gv cv k2 hB
  have o2 := fun M (h : M ∉ [17, 18, 19, 20, 21, 22, 23, 24, 25, 26, 27, 28, 29, 30, 31]) => k2.2.2 M h
  show Code.wp _ _ _ _ _
  have n1 : (⟨bs, 0, none⟩ : Addr) ≠ ⟨bi, 0, none⟩ := fun h => nis (congrArg Addr.block h)
  have n2 : (⟨bs, 0, none⟩ : Addr) ≠ ⟨bj, 0, none⟩ := fun h => njs (congrArg Addr.block h)
  have n3 : (⟨bi, 0, none⟩ : Addr) ≠ ⟨bj, 0, none⟩ := fun h => nij (congrArg Addr.block h)
  have ci := cell_below hi hB
  have cj := cell_below hj hB
  have fi : w2.frozen? ⟨bi, 0, none⟩ = false := (hB.frozen (p := ⟨bi, 0, none⟩) (World.block_lt_of_cell? w _ hi)).trans hfi
  have fj : w2.frozen? ⟨bj, 0, none⟩ = false := (hB.frozen (p := ⟨bj, 0, none⟩) (World.block_lt_of_cell? w _ hj)).trans hfj
  refine Rg.h2a (k2.1.trans (k1.1.trans hsz)) ((o2 0 (by decide)).trans ((o 0 (by decide)).trans e0)) ((o2 1 (by decide)).trans ((o 1 (by decide)).trans e1)) ((o2 2 (by decide)).trans ((o 2 (by decide)).trans e2)) ((o2 3 (by decide)).trans ((o 3 (by decide)).trans e3)) ⟨(World.cell?_setCell_other _ _ _ _ n1).trans ci, (World.frozen?_setCell _ _ _ _).trans fi⟩ ⟨(World.cell?_setCell_other _ _ _ _ n3).trans ((World.cell?_setCell_other _ _ _ _ n2).trans cj), (World.frozen?_setCell _ _ _ _).trans ((World.frozen?_setCell _ _ _ _).trans fj)⟩ ?_
  intro a3 k3
  rw [← hR]
  refine ⟨k3.2.1.trans (k2.2.1.trans (k1.2.1.trans hd0)), ?_⟩
  exact ⟨_, results_none rfl _ _ _, rfl, gv, cv, w2, hB, rfl⟩
set_option maxRecDepth 100000 in
set_option maxHeartbeats 2000000 in
theorem hunk_b (w : World) {bi bj bs ba bb : Nat} (hi : w.cell? ⟨bi, 0, none⟩ = some (.int .i64 2)) (hj : w.cell? ⟨bj, 0, none⟩ = some (.int .i64 1)) (hfi : w.frozen? ⟨bi, 0, none⟩ = false) (hfj : w.frozen? ⟨bj, 0, none⟩ = false) (nij : bi ≠ bj) :
    Calls Tryz.prog 113 #[.int .i64 2, .int .i64 1, .pointer (some ⟨bi, 0, none⟩), .pointer (some ⟨bj, 0, none⟩), .pointer (some ⟨bs, 0, none⟩), .pointer (some ⟨ba, 0, none⟩), .pointer (some ⟨bb, 0, none⟩)] w fun e w' => e = .returned (.tuple #[]) ∧ w' = (w.setCell ⟨bi, 0, none⟩ (.int .i64 3)).setCell ⟨bj, 0, none⟩ (.int .i64 2) := by
  refine calls_of_wp Tryz.func113 rfl ?_
  show Rg.code113.wp _ _ _ _
  generalize hR : (fun (e : Ending) (w' : World) => e = .returned (.tuple #[]) ∧ w' = (w.setCell ⟨bi, 0, none⟩ (.int .i64 3)).setCell ⟨bj, 0, none⟩ (.int .i64 2)) = R
  have hP : ∀ c (a a' : Act) (w : World), a'.defers = a.defers → bodyPost Tryz.prog Tryz.f113 R (.panic c) a w → bodyPost Tryz.prog Tryz.f113 R (.panic c) a' w := fun c a a' w hd h => ⟨hd.trans h.1, h.2⟩
  obtain ⟨a0, ha0⟩ : ∃ a0 : Act, a0 = { tmps := #[.int .i64 2, .int .i64 1, .pointer (some ⟨bi, 0, none⟩), .pointer (some ⟨bj, 0, none⟩), .pointer (some ⟨bs, 0, none⟩), .pointer (some ⟨ba, 0, none⟩), .pointer (some ⟨bb, 0, none⟩)] ++ Array.replicate (Tryz.f113.ntmps - (#[.int .i64 2, .int .i64 1, .pointer (some ⟨bi, 0, none⟩), .pointer (some ⟨bj, 0, none⟩), .pointer (some ⟨bs, 0, none⟩), .pointer (some ⟨ba, 0, none⟩), .pointer (some ⟨bb, 0, none⟩)] : Array Value).size) undef, defers := [] } := ⟨_, rfl⟩
  have hsz : a0.tmps.size = 36 := by rw [ha0]; simp [Tryz.ntmps113]
  have e0 : a0.eval (.tmp 0) = .int .i64 2 := by rw [ha0]; exact Ev.entry rfl
  have e1 : a0.eval (.tmp 1) = .int .i64 1 := by rw [ha0]; exact Ev.entry rfl
  have e2 : a0.eval (.tmp 2) = .pointer (some ⟨bi, 0, none⟩) := by rw [ha0]; exact Ev.entry rfl
  have e3 : a0.eval (.tmp 3) = .pointer (some ⟨bj, 0, none⟩) := by rw [ha0]; exact Ev.entry rfl
  have e4 : a0.eval (.tmp 4) = .pointer (some ⟨bs, 0, none⟩) := by rw [ha0]; exact Ev.entry rfl
  have e5 : a0.eval (.tmp 5) = .pointer (some ⟨ba, 0, none⟩) := by rw [ha0]; exact Ev.entry rfl
  have e6 : a0.eval (.tmp 6) = .pointer (some ⟨bb, 0, none⟩) := by rw [ha0]; exact Ev.entry rfl
  have hd0 : a0.defers = [] := by rw [ha0]
  rw [← ha0]
  clear ha0
  refine wp_seq (wp_seq (Rg.h0b hsz e0 e1 e2 e3 hi hj ?_))
  intro a1 k1 e16
  refine wp_cond_false e16 (wp_skip ?_)
  have o := fun M (h : M ∉ [9, 10, 11, 12, 13, 14, 15, 16]) => k1.2.2 M h
  show Code.wp _ _ _ _ _
  have n3 : (⟨bi, 0, none⟩ : Addr) ≠ ⟨bj, 0, none⟩ := fun h => nij (congrArg Addr.block h)
  refine Rg.h2b (k1.1.trans hsz) ((o 0 (by decide)).trans e0) ((o 1 (by decide)).trans e1) ((o 2 (by decide)).trans e2) ((o 3 (by decide)).trans e3) ⟨hi, hfi⟩ ⟨(World.cell?_setCell_other _ _ _ _ n3).trans hj, (World.frozen?_setCell _ _ _ _).trans hfj⟩ ?_
  intro a3 k3
  rw [← hR]
  refine ⟨k3.2.1.trans (k1.2.1.trans hd0), ?_⟩
  exact ⟨_, results_none rfl _ _ _, rfl, rfl⟩
set_option maxRecDepth 100000 in
set_option maxHeartbeats 8000000 in
/-- edit.Make of the one pair of ab and b. -/
theorem make_ab (w : World) (h1 h2 c1 c2 g c : Nat) (t0 t1 t2 : Value) (x0 x1 : Int) (s0 : w.cell? ⟨h1, 0, none⟩ = some t0) (s1 : w.cell? ⟨h1, 1, none⟩ = some t1) (s2 : w.cell? ⟨h2, 0, none⟩ = some t2) (q0 : Tk w t0 x0) (q1 : Tk w t1 x1) (q2 : Tk w t2 x1)
    (e10 : Lib.compareBytes (Lib.bytesOf [x1]) (Lib.bytesOf [x0]) = 1) (e00 : Lib.compareBytes (Lib.bytesOf [x0]) (Lib.bytesOf [x0]) = 0) (e11 : Lib.compareBytes (Lib.bytesOf [x1]) (Lib.bytesOf [x1]) = 0) (e01 : Lib.compareBytes (Lib.bytesOf [x0]) (Lib.bytesOf [x1]) = -1) (e3 : ((strOfNums [x1]).toList == (strOfNums [x0]).toList) = false)
    (p0 : w.cell? ⟨g, 0, none⟩ = some (.int .i64 1)) (p1 : w.cell? ⟨g, 1, none⟩ = some (.int .i64 0)) (lc1 : 2 ≤ c1) (lc2 : 1 ≤ c2) :
    Calls Tryz.prog 56 #[.slice (some ⟨h1, 0, none⟩) 2 c1, .slice (some ⟨h2, 0, none⟩) 1 c2, .slice (some ⟨g, 0, none⟩) 1 c] w fun e w' => (∃ gs cs, e = .returned (.tuple #[.slice (some ⟨gs, 0, none⟩) 1 cs, .int .i64 0])) ∧ Below w.heap.size w w' := by
  obtain ⟨g0, c0, rfl⟩ := q0.form
  have b1 : Below w.heap.size w (w.alloc (.cells #[.slice (some ⟨h1, 0, none⟩) 2 c1] 82)) := (Below.refl _ _).alloc (Nat.le_refl _) _
  have b2 := Sd.mk (b1.alloc b1.size (.cells #[.slice (some ⟨h2, 0, none⟩) 1 c2] 82))
  have k1 : (w.alloc (.cells #[.slice (some ⟨h1, 0, none⟩) 2 c1] 82)).heap[w.heap.size]? = some (.cells #[.slice (some ⟨h1, 0, none⟩) 2 c1] 82 (0, 0)) := blk_new w _
  have S0 := Sd.mk s0
  have S1 := Sd.mk s1
  have S2 := Sd.mk s2
  have Q0 := Sd.mk q0
  have Q1 := Sd.mk q1
  have Q2 := Sd.mk q2
  have E10 := Sd.mk e10
  have E00 := Sd.mk e00
  have E11 := Sd.mk e11
  have E01 := Sd.mk e01
  have E3 := Sd.mk e3
  have P0 := Sd.mk p0
  have P1 := Sd.mk p1
  clear b1 k1 s0 s1 s2 q0 q1 q2 e10 e00 e11 e01 e3 p0 p1
  go_enter Tryz.func56, Tryz.ntmps56
  go_wp2_with fail
  obtain ⟨w1, hw1⟩ : ∃ w1, w1 = (w.alloc (.cells #[.slice (some ⟨h1, 0, none⟩) 2 c1] 82)).alloc (.cells #[.slice (some ⟨h2, 0, none⟩) 1 c2] 82) := ⟨_, rfl⟩
  have hA := Sd.mk (show w1.heap[w.heap.size]? = some (.cells #[.slice (some ⟨h1, 0, none⟩) 2 c1] 82 (0, 0)) from hw1 ▸ blk_alloc (blk_new w (.cells #[.slice (some ⟨h1, 0, none⟩) 2 c1] 82)) _)
  have hz : (w.alloc (.cells #[.slice (some ⟨h1, 0, none⟩) 2 c1] 82)).heap.size = w.heap.size + 1 := by simp
  have hB := Sd.mk (show w1.heap[w.heap.size + 1]? = some (.cells #[.slice (some ⟨h2, 0, none⟩) 1 c2] 82 (0, 0)) from by rw [hw1, ← hz]; exact blk_new _ _)
  clear hz
  rw [← hw1] at b2 ⊢
  clear hw1
  refine (two_ab w1 h1 h2 c1 c2 _ t1 t2 x0 x1 (cell_below S0.out b2.out) (cell_below S1.out b2.out) (cell_below S2.out b2.out) (Q0.out.below b2.out) (Q1.out.below b2.out) (Q2.out.below b2.out) E10.out E00.out E11.out E01.out E3.out).mono ?_
  rintro e w2 ⟨v1, v2, rfl, o1, o2, hb⟩
  obtain ⟨X, cx, rfl⟩ := own_form o1 (by decide)
  obtain ⟨Y, cy, rfl⟩ := own_form o2 (by decide)
  have X1 := Sd.mk ((own_cell o1 1 (by decide)).trans rfl)
  have Y0 := Sd.mk ((own_cell o2 0 (by decide)).trans rfl)
  have B2 := Sd.mk (b2.out.trans (hb.mono b2.out.size))
  have A2 := Sd.mk (blk_below hA.out hb (blk_lt hA.out))
  have C2 := Sd.mk (blk_below hB.out hb (blk_lt hB.out))
  clear o1 o2 hb hA hB b2
  go_wp2_with fail
  refine (good_ab w2 X Y g cx cy c X1.out Y0.out (cell_below P0.out B2.out) (cell_below P1.out B2.out)).mono ?_
  rintro e w3 ⟨rfl, hb⟩
  have B3 := Sd.mk (B2.out.trans (hb.mono B2.out.size))
  have A3 := Sd.mk (blk_below A2.out hb (blk_lt A2.out))
  have C3 := Sd.mk (blk_below C2.out hb (blk_lt C2.out))
  clear hb B2 A2 C2 X1 Y0
  go_wp2_with fail
  obtain ⟨w4, hw4⟩ : ∃ w4, w4 = ((w3.alloc (.cells #[.slice none 0 0] 38)).alloc (.cells #[.int .i64 0] 3)).alloc (.cells #[.int .i64 0] 3) := ⟨_, rfl⟩
  have hz1 : (w3.alloc (.cells #[.slice none 0 0] 38)).heap.size = w3.heap.size + 1 := by simp
  have hz2 : ((w3.alloc (.cells #[.slice none 0 0] 38)).alloc (.cells #[.int .i64 0] 3)).heap.size = w3.heap.size + 1 + 1 := by simp
  have F0 := Sd.mk (show w4.heap[w3.heap.size]? = some (.cells #[.slice none 0 0] 38 (0, 0)) from hw4 ▸ blk_alloc (blk_alloc (blk_new w3 _) _) _)
  have F1 := Sd.mk (show w4.heap[w3.heap.size + 1]? = some (.cells #[.int .i64 0] 3 (0, 0)) from by rw [hw4, ← hz1]; exact blk_alloc (blk_new _ _) _)
  have F2 := Sd.mk (show w4.heap[w3.heap.size + 1 + 1]? = some (.cells #[.int .i64 0] 3 (0, 0)) from by rw [hw4, ← hz2]; exact blk_new _ _)
  have hB4 : Below w3.heap.size w3 w4 := by
    rw [hw4]
    have q1 := (Below.refl w3.heap.size w3).alloc (Nat.le_refl _) (.cells #[.slice none 0 0] 38)
    have q2 := q1.alloc q1.size (.cells #[.int .i64 0] 3)
    exact q2.alloc q2.size _
  rw [← hw4]
  have B4 := Sd.mk (B3.out.trans (hB4.mono B3.out.size))
  have A4 := Sd.mk (blk_below A3.out hB4 (blk_lt A3.out))
  have C4 := Sd.mk (blk_below C3.out hB4 (blk_lt C3.out))
  have l3 := Sd.mk (blk_lt C3.out)
  generalize w3.heap.size = n3 at *
  clear hw4 hz1 hz2 hB4 A3 C3 B3
  have G0 := cell_below P0.out B4.out
  have G1 := cell_below P1.out B4.out
  refine wp_loop_rounds 2 ?_
  rw [rounds_succ]
  go_wp2_with fail
  clear G0 G1
  obtain ⟨w5, hw5⟩ : ∃ w5, w5 = w4.alloc (.cells #[.int .i64 1, .int .i64 0] 71) := ⟨_, rfl⟩
  have hB5 : Below w4.heap.size w4 w5 := by rw [hw5]; exact (Below.refl w4.heap.size w4).alloc (Nat.le_refl _) _
  rw [← hw5]
  clear hw5
  have H0 := blk_below F0.out hB5 (blk_lt F0.out)
  have H1 := blk_below F1.out hB5 (blk_lt F1.out)
  have H2 := blk_below F2.out hB5 (blk_lt F2.out)
  have HA := blk_below A4.out hB5 (blk_lt A4.out)
  have HC := blk_below C4.out hB5 (blk_lt C4.out)
  have B5 := B4.out.trans (hB5.mono B4.out.size)
  refine (hunk_a w5 ((blk_cell H0 0).trans rfl) (blk_frozen H0 0) ((blk_cell H1 0).trans rfl) ((blk_cell H2 0).trans rfl) ((blk_cell HA 0).trans rfl) ((blk_cell HC 0).trans rfl) (cell_below S0.out B5) (Q0.out.below B5).cell lc1 lc2 (blk_frozen H1 0) (blk_frozen H2 0) (by omega) (by omega) (by omega)).mono ?_
  rintro e w' ⟨rfl, gv, cv, w6, hB6, rfl⟩
  replace H0 := blk_below H0 hB6 (blk_lt H0)
  replace H1 := blk_below H1 hB6 (blk_lt H1)
  replace H2 := blk_below H2 hB6 (blk_lt H2)
  replace HA := blk_below HA hB6 (blk_lt HA)
  replace HC := blk_below HC hB6 (blk_lt HC)
  replace B5 := B5.trans (hB6.mono B5.size)
  have ln := l3.out
  have n01 : (⟨n3, 0, none⟩ : Addr) ≠ ⟨n3 + 1, 0, none⟩ := fun h => absurd (congrArg Addr.block h) (by simp)
  have n02 : (⟨n3, 0, none⟩ : Addr) ≠ ⟨n3 + 1 + 1, 0, none⟩ := fun h => absurd (congrArg Addr.block h) (by simp; omega)
  have n12 : (⟨n3 + 1, 0, none⟩ : Addr) ≠ ⟨n3 + 1 + 1, 0, none⟩ := fun h => absurd (congrArg Addr.block h) (by simp)
  obtain ⟨w7, hw7⟩ : ∃ w7, w7 = ((w6.setCell ⟨n3, 0, none⟩ (.slice (some ⟨gv, 0, none⟩) (0 + 1) cv)).setCell ⟨n3 + 1, 0, none⟩ (.int .i64 2)).setCell ⟨n3 + 1 + 1, 0, none⟩ (.int .i64 1) := ⟨_, rfl⟩
  have s7 : w7.cell? ⟨n3, 0, none⟩ = some (.slice (some ⟨gv, 0, none⟩) (0 + 1) cv) := by
    rw [hw7, World.cell?_setCell_other _ _ _ _ n02.symm, World.cell?_setCell_other _ _ _ _ n01.symm]
    exact World.cell?_setCell_same _ _ _ ((blk_cell H0 0).trans rfl)
  have i7 : w7.cell? ⟨n3 + 1, 0, none⟩ = some (.int .i64 2) := by
    rw [hw7, World.cell?_setCell_other _ _ _ _ n12.symm]
    exact World.cell?_setCell_same _ _ _ ((World.cell?_setCell_other _ _ _ _ n01).trans ((blk_cell H1 0).trans rfl))
  have j7 : w7.cell? ⟨n3 + 1 + 1, 0, none⟩ = some (.int .i64 1) := by
    rw [hw7]
    exact World.cell?_setCell_same _ _ _ ((World.cell?_setCell_other _ _ _ _ n12).trans ((World.cell?_setCell_other _ _ _ _ n02).trans ((blk_cell H2 0).trans rfl)))
  have fi7 : w7.frozen? ⟨n3 + 1, 0, none⟩ = false := by
    rw [hw7, World.frozen?_setCell, World.frozen?_setCell, World.frozen?_setCell]; exact blk_frozen H1 0
  have fj7 : w7.frozen? ⟨n3 + 1 + 1, 0, none⟩ = false := by
    rw [hw7, World.frozen?_setCell, World.frozen?_setCell, World.frozen?_setCell]; exact blk_frozen H2 0
  have HA7 : w7.heap[w.heap.size]? = some (.cells #[.slice (some ⟨h1, 0, none⟩) 2 c1] 82 (0, 0)) := by
    rw [hw7]; exact blk_far (blk_far (blk_far HA (show w.heap.size ≠ n3 by omega) _) (show w.heap.size ≠ n3 + 1 by omega) _) (show w.heap.size ≠ n3 + 1 + 1 by omega) _
  have HC7 : w7.heap[w.heap.size + 1]? = some (.cells #[.slice (some ⟨h2, 0, none⟩) 1 c2] 82 (0, 0)) := by
    rw [hw7]; exact blk_far (blk_far (blk_far HC (show w.heap.size + 1 ≠ n3 by omega) _) (show w.heap.size + 1 ≠ n3 + 1 by omega) _) (show w.heap.size + 1 ≠ n3 + 1 + 1 by omega) _
  have B7 : Below w.heap.size w w7 := by
    rw [hw7]; exact ((B5.setCell (show w.heap.size ≤ n3 by omega) _).setCell (show w.heap.size ≤ n3 + 1 by omega) _).setCell (show w.heap.size ≤ n3 + 1 + 1 by omega) _
  rw [← hw7]
  have A7 := Sd.mk HA7
  have C7 := Sd.mk HC7
  have T7 := Sd.mk (And.intro s7 (And.intro i7 (And.intro j7 (And.intro fi7 fj7))))
  have BB := Sd.mk B7
  have ca := (blk_cell HA7 0).trans rfl
  have cc := (blk_cell HC7 0).trans rfl
  clear hw7 s7 i7 j7 fi7 fj7 HA7 HC7 B7 H0 H1 H2 HA HC B5 hB6 hB5 F0 F1 F2 A4 C4 B4
  go_wp2_with fail
  rw [rounds_succ]
  go_wp2_with fail
  have n12b : (⟨n3 + 1, 0, none⟩ : Addr) ≠ ⟨n3, 0, none⟩ := n01.symm
  refine (hunk_b w7 T7.out.2.1 T7.out.2.2.1 T7.out.2.2.2.1 T7.out.2.2.2.2 (by omega)).mono ?_
  rintro e w' ⟨rfl, rfl⟩
  have s8 : ((w7.setCell ⟨n3 + 1, 0, none⟩ (.int .i64 3)).setCell ⟨n3 + 1 + 1, 0, none⟩ (.int .i64 2)).cell? ⟨n3, 0, none⟩ = some (.slice (some ⟨gv, 0, none⟩) (0 + 1) cv) :=
    (World.cell?_setCell_other _ _ _ _ n02.symm).trans ((World.cell?_setCell_other _ _ _ _ n01.symm).trans T7.out.1)
  have B8 : Below w.heap.size w ((w7.setCell ⟨n3 + 1, 0, none⟩ (.int .i64 3)).setCell ⟨n3 + 1 + 1, 0, none⟩ (.int .i64 2)) := (BB.out.setCell (show w.heap.size ≤ n3 + 1 by omega) _).setCell (show w.heap.size ≤ n3 + 1 + 1 by omega) _
  generalize (w7.setCell ⟨n3 + 1, 0, none⟩ (.int .i64 3)).setCell ⟨n3 + 1 + 1, 0, none⟩ (.int .i64 2) = w8 at *
  have BB8 := Sd.mk B8
  clear B8 ca cc n01 n02 n12 n12b ln T7 A7 C7
  go_wp2
  refine bodyPost_ret (by simp [results, Tryz.results56, go_sem]; rfl) rfl ?_
  exact ⟨⟨_, _, rfl⟩, BB8.out⟩
set_option maxRecDepth 100000 in
set_option maxHeartbeats 4000000 in
theorem wide_top (w : World) : Calls Tryz.prog 19 #[] w fun e w' => e = .returned (.agg #[.int .i64 1000, .int .i64 1099511627776]) ∧ Below w.heap.size w w' := by
  have b1 : Below w.heap.size w (w.alloc (.cells #[.int .i64 0, .int .i64 0] 37)) := (Below.refl _ _).alloc (Nat.le_refl _) _
  go_enter Tryz.func19, Tryz.ntmps19
  go_wp2
  have c0 : (w.alloc (.cells #[.int .i64 1000, .int .i64 1099511627776] 37)).cell? ⟨w.heap.size, 0, none⟩ = some (.int .i64 1000) := (blk_cell (blk_new w _) 0).trans rfl
  have c1 : (w.alloc (.cells #[.int .i64 1000, .int .i64 1099511627776] 37)).cell? ⟨w.heap.size, 1, none⟩ = some (.int .i64 1099511627776) := (blk_cell (blk_new w _) 1).trans rfl
  refine bodyPost_ret (by simp [results, Tryz.results19, go_sem]; rfl) rfl ?_
  exact ⟨rfl, (Below.refl _ _).alloc (Nat.le_refl _) _⟩
set_option maxRecDepth 100000 in
set_option maxHeartbeats 4000000 in
/-- band.edges of one and none, one wide. -/
theorem edges_10 (w : World) : Calls Tryz.prog 101 #[.int .i64 1, .int .i64 0, .int .i64 1] w fun e w' => e = .returned (.tuple #[.int .i64 0, .int .i64 1, .bool true]) ∧ w' = w := by
  have h1 : IntKind.i64.wrap 1 = 1 := by decide
  have h2 : IntKind.i64.wrap 0 = 0 := by decide
  have h3 : IntKind.i64.wrap (-1) = -1 := by decide
  go_enter Tryz.func101, Tryz.ntmps101
  go_wp2
  refine bodyPost_ret (by simp [results, Tryz.results101, go_sem]; rfl) rfl ?_
  exact ⟨rfl, rfl⟩
set_option maxRecDepth 100000 in
set_option maxHeartbeats 4000000 in
theorem ok_153 (w : World) {x : Int} (hx : x = 0 ∨ x = 1) : Calls Tryz.prog 153 #[.int .i64 x] w fun e w' => e = .returned (.bool true) ∧ w' = w := by
  rcases hx with rfl | rfl <;>
  · go_enter Tryz.func153, Tryz.ntmps153
    go_wp2
    refine bodyPost_ret (by simp [results, Tryz.results153, go_sem]; rfl) rfl ?_
    exact ⟨rfl, rfl⟩
set_option maxRecDepth 100000 in
set_option maxHeartbeats 4000000 in
/-- band.Cells of one and none, one wide. -/
theorem cells_10 (w : World) : Calls Tryz.prog 100 #[.int .i64 1, .int .i64 0, .int .i64 1] w fun e w' => e = .returned (.int .i64 2) ∧ w' = w := by
  have h1 : IntKind.i64.wrap 1 = 1 := by decide
  have h2 : IntKind.i64.wrap 0 = 0 := by decide
  have h3 : IntKind.i64.wrap (-1) = -1 := by decide
  have h4 : IntKind.i64.wrap 2 = 2 := by decide
  go_enter Tryz.func100, Tryz.ntmps100
  go_wp2_with fail
  refine (ok_153 w (Or.inr rfl)).mono ?_
  rintro e w' ⟨rfl, hw⟩
  have hw := hw.symm
  subst hw
  go_wp2_with fail
  refine (ok_153 w (Or.inl rfl)).mono ?_
  rintro e w' ⟨rfl, hw⟩
  have hw := hw.symm
  subst hw
  go_wp2_with fail
  refine (edges_10 w).mono ?_
  rintro e w' ⟨rfl, hw⟩
  have hw := hw.symm
  subst hw
  go_wp2_with fail
  refine wp_loop_rounds 3 ?_
  rw [rounds_succ]
  go_wp2
  rw [rounds_succ]
  go_wp2
  rw [rounds_succ]
  go_wp2
  go_ret
  exact ⟨rfl, rfl⟩
set_option maxRecDepth 100000 in
set_option maxHeartbeats 4000000 in
/-- (band.line).at of a line from 0 of one number, at 0. -/
theorem at_in (w : World) (g c : Nat) (x : Int) (h : w.cell? ⟨g, 0, none⟩ = some (.int .i64 x)) : Calls Tryz.prog 103 #[.agg #[.int .i64 0, .slice (some ⟨g, 0, none⟩) 1 c], .int .i64 0] w fun e w' => e = .returned (.int .i64 x) ∧ Below w.heap.size w w' := by
  have h1 : IntKind.i64.wrap 1 = 1 := by decide
  have h2 : IntKind.i64.wrap 0 = 0 := by decide
  have hb := Sd.mk ((Below.refl w.heap.size w).alloc (Nat.le_refl _) (.cells #[.int .i64 0, .slice (some ⟨g, 0, none⟩) 1 c] 156))
  have hg := World.block_lt_of_cell? w _ h
  go_enter Tryz.func103, Tryz.ntmps103
  go_wp2
  go_ret
  exact ⟨rfl, hb.out⟩
theorem at_out (w : World) (g c : Nat) : Calls Tryz.prog 103 #[.agg #[.int .i64 0, .slice none 0 0], .int .i64 (-1)] w fun e w' => e = .returned (.int .i64 1152921504606846976) ∧ Below w.heap.size w w' := by
  have hb := Sd.mk ((Below.refl w.heap.size w).alloc (Nat.le_refl _) (.cells #[.int .i64 0, .slice none 0 0] 156))
  go_enter Tryz.func103, Tryz.ntmps103
  go_wp2
  go_ret
  exact ⟨rfl, hb.out⟩
set_option maxRecDepth 100000 in
set_option maxHeartbeats 4000000 in
/-- band.next, row 0. -/
theorem next_0 (w : World) (X cx : Nat) (A : Option Addr) (cy : Nat) : Calls Tryz.prog 102 #[.slice (some ⟨X, 0, none⟩) 1 cx, .slice A 0 cy, .int .i64 0, .int .i64 0, .int .i64 1, .agg #[.int .i64 0, .slice none 0 0]] w fun e w' => ∃ g c, e = .returned (.agg #[.int .i64 0, .slice (some ⟨g, 0, none⟩) 1 c]) ∧ w'.cell? ⟨g, 0, none⟩ = some (.int .i64 0) ∧ w.heap.size ≤ g ∧ Below w.heap.size w w' := by
  have h1 : IntKind.i64.wrap 1 = 1 := by decide
  have h2 : IntKind.i64.wrap 0 = 0 := by decide
  have h3 : IntKind.i64.wrap (-1) = -1 := by decide
  go_enter Tryz.func102, Tryz.ntmps102
  go_wp2_with fail
  refine wp_loop_rounds 2 ?_
  rw [rounds_succ]
  go_wp2_with fail
  rw [rounds_succ]
  go_wp2
  generalize hC : (Question.appendCap 1 0 3).cut (w.tape w.drawn (Question.appendCap 1 0 3)) = C
  have q0 := (Below.refl w.heap.size w).alloc (Nat.le_refl _) (.cells #[.int .i64 0, .slice none 0 0] 156)
  have q1 := q0.alloc q0.size (.cells #[.int .i64 0, .slice (some ⟨w.heap.size + 1 + 1 + 1 + 1, 0, none⟩) 1 C] 156)
  have q2 := q1.alloc q1.size (.cells #[.int .i64 0, .slice (some ⟨w.heap.size + 1 + 1 + 1 + 1, 0, none⟩) 1 C] 156)
  have q3 := q2.alloc q2.size (.cells #[.int .i64 0] 3)
  have q4 := (q3.alloc q3.size (.cells (#[.int .i64 0] ++ Builtin.zeroCells #[.int .i64 0] (C - 1)) 3)).drew
  refine bodyPost_ret (by simp [results, Tryz.results102, go_sem]; rfl) rfl ?_
  exact ⟨_, _, rfl, by go_simp; simp [Array.getElem?_append], by omega, q4⟩
theorem min_far (ats : Array TypeId) (ty : TypeId) : Builtin.min_ ats ty #[.int .i64 1152921504606846976, .int .i64 1, .int .i64 1152921504606846977] = pure (.int .i64 1) := by rfl
/-- What holds within region 7. -/
structure N1 (w0 : World) (n g c : Nat) (W : World) : Prop where
  b : Below n w0 W
  fa : W.heap[n]? = some (.cells #[.int .i64 0, .slice (some ⟨g, 0, none⟩) 1 c] 156 (0, 0))
  fr : W.heap[n + 1]? = some (.cells #[.int .i64 0, .slice none 0 0] 156 (0, 0))
  fw : W.heap[n + 1 + 1]? = some (.cells #[.int .i64 0, .slice none 0 0] 156 (0, 0))
  x : W.cell? ⟨g, 0, none⟩ = some (.int .i64 0)
structure N5 (w0 : World) (n m C : Nat) (W : World) : Prop where
  b : Below n w0 W
  fr : W.heap[n + 1]? = some (.cells #[.int .i64 0, .slice none 0 0] 156 (0, 0))
  fw : W.heap[n + 1 + 1]? = some (.cells #[.int .i64 0, .slice (some ⟨m + 1, 0, none⟩) 1 C] 156 (0, 0))
  x : W.cell? ⟨m + 1, 0, none⟩ = some (.int .i64 1)
  lt : n + 1 < m
theorem N1.step {w0 : World} {n g c : Nat} {W W' : World} (h : N1 w0 n g c W) (hb : Below W.heap.size W W') : N1 w0 n g c W' :=
  ⟨h.b.trans (hb.mono (Nat.le_of_lt (blk_lt h.fa))), blk_below h.fa hb (blk_lt h.fa), blk_below h.fr hb (blk_lt h.fr), blk_below h.fw hb (blk_lt h.fw), cell_below h.x hb⟩
theorem N1.drew {w0 : World} {n g c : Nat} {W : World} (h : N1 w0 n g c W) : N1 w0 n g c W.drew := h.step (Below.refl _ _).drew
theorem N1.a0 {w0 : World} {n g c : Nat} {W : World} (h : N1 w0 n g c W) : W.cell? ⟨n, 0, none⟩ = some (.int .i64 0) := (blk_cell h.fa 0).trans rfl
theorem N1.a1 {w0 : World} {n g c : Nat} {W : World} (h : N1 w0 n g c W) : W.cell? ⟨n, 1, none⟩ = some (.slice (some ⟨g, 0, none⟩) 1 c) := (blk_cell h.fa 1).trans rfl
theorem N1.r0 {w0 : World} {n g c : Nat} {W : World} (h : N1 w0 n g c W) : W.cell? ⟨n + 1 + 1, 0, none⟩ = some (.int .i64 0) := (blk_cell h.fw 0).trans rfl
theorem N1.r1 {w0 : World} {n g c : Nat} {W : World} (h : N1 w0 n g c W) : W.cell? ⟨n + 1 + 1, 1, none⟩ = some (.slice none 0 0) := (blk_cell h.fw 1).trans rfl
set_option maxRecDepth 100000 in
set_option maxHeartbeats 4000000 in
/-- band.next, row 1. -/
theorem next_1 (w : World) (X cx g c : Nat) (A : Option Addr) (cy : Nat) (h : w.cell? ⟨g, 0, none⟩ = some (.int .i64 0)) : Calls Tryz.prog 102 #[.slice (some ⟨X, 0, none⟩) 1 cx, .slice A 0 cy, .int .i64 1, .int .i64 0, .int .i64 1, .agg #[.int .i64 0, .slice (some ⟨g, 0, none⟩) 1 c]] w fun e w' => ∃ g c, e = .returned (.agg #[.int .i64 0, .slice (some ⟨g, 0, none⟩) 1 c]) ∧ w'.cell? ⟨g, 0, none⟩ = some (.int .i64 1) ∧ w.heap.size ≤ g ∧ Below w.heap.size w w' := by
  have h1 : IntKind.i64.wrap 1 = 1 := by decide
  have h2 : IntKind.i64.wrap 0 = 0 := by decide
  have h3 : IntKind.i64.wrap (-1) = -1 := by decide
  have h4 : IntKind.i64.wrap 1152921504606846977 = 1152921504606846977 := by decide
  have hg := Sd.mk (World.block_lt_of_cell? w _ h)
  have H := Sd.mk h
  clear h
  go_enter Tryz.func102, Tryz.ntmps102
  go_wp2_with fail
  refine wp_loop_rounds 2 ?_
  rw [rounds_succ]
  go_wp2_with fail
  obtain ⟨w1, hw1⟩ : ∃ w1, w1 = (((w.alloc (Obj.cells #[Value.int IntKind.i64 0, Value.slice (some { block := g, off := 0 }) 1 c] 156)).alloc (Obj.cells #[Value.int IntKind.i64 0, Value.slice none 0 0] 156)).alloc (Obj.cells #[Value.int IntKind.i64 0, Value.slice none 0 0] 156)) := ⟨_, rfl⟩
  have hz1 : (w.alloc (Obj.cells #[Value.int IntKind.i64 0, Value.slice (some { block := g, off := 0 }) 1 c] 156)).heap.size = w.heap.size + 1 := by simp
  have hz2 : ((w.alloc (Obj.cells #[Value.int IntKind.i64 0, Value.slice (some { block := g, off := 0 }) 1 c] 156)).alloc (Obj.cells #[Value.int IntKind.i64 0, Value.slice none 0 0] 156)).heap.size = w.heap.size + 1 + 1 := by simp
  have FA := Sd.mk (show w1.heap[w.heap.size]? = some (.cells #[.int .i64 0, .slice (some ⟨g, 0, none⟩) 1 c] 156 (0, 0)) from hw1 ▸ blk_alloc (blk_alloc (blk_new w _) _) _)
  have FR := Sd.mk (show w1.heap[w.heap.size + 1]? = some (.cells #[.int .i64 0, .slice none 0 0] 156 (0, 0)) from by rw [hw1, ← hz1]; exact blk_alloc (blk_new _ _) _)
  have FW := Sd.mk (show w1.heap[w.heap.size + 1 + 1]? = some (.cells #[.int .i64 0, .slice none 0 0] 156 (0, 0)) from by rw [hw1, ← hz2]; exact blk_new _ _)
  have HB : Below w.heap.size w w1 := by
    rw [hw1]
    have q1 := (Below.refl w.heap.size w).alloc (Nat.le_refl _) (.cells #[.int .i64 0, .slice (some ⟨g, 0, none⟩) 1 c] 156)
    have q2 := q1.alloc q1.size (.cells #[.int .i64 0, .slice none 0 0] 156)
    exact q2.alloc q2.size _
  have HC := Sd.mk (cell_below H.out HB)
  have HBS := Sd.mk HB
  rw [← hw1]
  clear hw1 hz1 hz2 HB H
  generalize hN : w.heap.size = n at *
  have HN := Sd.mk hN
  clear hN
  go_quiet (fail)
  obtain ⟨w2, hw2⟩ : ∃ w2, w2 = w1.drewN nq := ⟨_, rfl⟩
  have hd := below_drewN' (Below.refl w1.heap.size w1) nq
  rw [← hw2] at hd
  have N2 : N1 w n g c w2 := by
    refine ⟨HBS.out.trans (hd.mono (Nat.le_of_lt (blk_lt FA.out))), blk_below FA.out hd (blk_lt FA.out), blk_below FR.out hd (blk_lt FR.out), blk_below FW.out hd (blk_lt FW.out), cell_below HC.out hd⟩
  have AA := Sd.mk N2
  have a0 := N2.a0
  have a1 := N2.a1
  have r0 := N2.r0
  have r1 := N2.r1
  clear FA FR FW HC HBS hd N2
  go_wp2_with fail
  rw [← hw2]
  clear hw2
  have hm := min_far
  go_region_with (first
    | (go_at_call 103; (with_reducible refine (at_in w2.drew g c 0 AA.out.drew.x).mono ?_); rintro e w3 ⟨rfl, hb3⟩; have A3 := Sd.mk (AA.out.drew.step hb3); have a0' := A3.out.a0; have a1' := A3.out.a1; have r0' := A3.out.r0; have r1' := A3.out.r1; clear hb3)
    | (go_at_call 103; (with_reducible refine (at_out w2.drew g c).mono ?_); rintro e w3 ⟨rfl, hb3⟩; have A3 := Sd.mk (AA.out.drew.step hb3); have a0' := A3.out.a0; have a1' := A3.out.a1; have r0' := A3.out.r0; have r1' := A3.out.r1; clear hb3)
    | (go_at_call 103; (with_reducible refine (at_in w3 g c 0 A3.out.x).mono ?_); rintro e w4 ⟨rfl, hb3⟩; have A4 := Sd.mk (A3.out.step hb3); clear hb3)
    | (go_at_call 103; (with_reducible refine (at_out w3 g c).mono ?_); rintro e w4 ⟨rfl, hb3⟩; have A4 := Sd.mk (A3.out.step hb3); clear hb3))
  all_goals clear a0 a1 r0 r1 a0' a1' r0' r1'
  all_goals
    have hb4 := A4.out.b
    have r0 := A4.out.r0
    have r1 := A4.out.r1
    have rf0 := blk_frozen A4.out.fw 0
    have rf1 := blk_frozen A4.out.fw 1
    have q0 : w4.cell? ⟨n + 1, 0, none⟩ = some (.int .i64 0) := (blk_cell A4.out.fr 0).trans rfl
    have q1 : w4.cell? ⟨n + 1, 1, none⟩ = some (.slice none 0 0) := (blk_cell A4.out.fr 1).trans rfl
    have qf0 := blk_frozen A4.out.fr 0
    have qf1 := blk_frozen A4.out.fr 1
    have lw := blk_lt A4.out.fw
    have lw1 : n + 1 < w4.heap.size := by omega
    have HB4 := Sd.mk hb4
    clear hb4
    go_wp2_with fail
    generalize hC : (Question.appendCap 1 0 3).cut (w4.tape w4.drawn (Question.appendCap 1 0 3)) = C
    obtain ⟨w5, hw5⟩ : ∃ w5, w5 = ((((w4.setCell ⟨n + 1 + 1, 1, none⟩ (.slice (some ⟨w4.heap.size + 1, 0, none⟩) 1 C)).alloc (.cells #[.int .i64 1] 3)).alloc (.cells (#[.int .i64 1] ++ Builtin.zeroCells #[.int .i64 0] (C - 1)) 3)).drew) := ⟨_, rfl⟩
    have N5 : N5 w n w4.heap.size C w5 := by
      have ls : (w4.setCell ⟨n + 1 + 1, 1, none⟩ (.slice (some ⟨w4.heap.size + 1, 0, none⟩) 1 C)).heap.size = w4.heap.size := by simp
      have ls1 : ((w4.setCell ⟨n + 1 + 1, 1, none⟩ (.slice (some ⟨w4.heap.size + 1, 0, none⟩) 1 C)).alloc (.cells #[.int .i64 1] 3)).heap.size = w4.heap.size + 1 := by simp
      have z1 := HB4.out.setCell (p := ⟨n + 1 + 1, 1, none⟩) (by simp; omega) (.slice (some ⟨w4.heap.size + 1, 0, none⟩) 1 C)
      have z2 := z1.alloc (by rw [ls]; omega) (.cells #[.int .i64 1] 3)
      have z3 := (z2.alloc (by rw [ls1]; omega) (.cells (#[.int .i64 1] ++ Builtin.zeroCells #[.int .i64 0] (C - 1)) 3)).drew
      rw [hw5]
      refine ⟨z3, blk_alloc (blk_alloc (blk_far A4.out.fr (by simp) _) _) _, blk_alloc (blk_alloc (blk_set A4.out.fw 1 _) _) _, ?_, ?_⟩
      · have e := blk_cell (blk_new ((w4.setCell ⟨n + 1 + 1, 1, none⟩ (.slice (some ⟨w4.heap.size + 1, 0, none⟩) 1 C)).alloc (.cells #[.int .i64 1] 3)) (.cells (#[.int .i64 1] ++ Builtin.zeroCells #[.int .i64 0] (C - 1)) 3)) 0
        rw [ls1] at e
        rw [World.cell?_drew, e]
        simp [Array.getElem?_append]
      · omega
    have AA5 := Sd.mk N5
    rw [← hw5]
    clear hw5 hC q0 q1 qf0 qf1 r0 r1 rf0 rf1 lw lw1 HB4 A4 A3 AA N5
    have q0 : w5.cell? ⟨n + 1, 0, none⟩ = some (.int .i64 0) := (blk_cell AA5.out.fr 0).trans rfl
    have q1 : w5.cell? ⟨n + 1, 1, none⟩ = some (.slice none 0 0) := (blk_cell AA5.out.fr 1).trans rfl
    have r0 : w5.cell? ⟨n + 1 + 1, 0, none⟩ = some (.int .i64 0) := (blk_cell AA5.out.fw 0).trans rfl
    have r1 : w5.cell? ⟨n + 1 + 1, 1, none⟩ = some (.slice (some ⟨w4.heap.size + 1, 0, none⟩) 1 C) := (blk_cell AA5.out.fw 1).trans rfl
    have qf0 := blk_frozen AA5.out.fr 0
    have qf1 := blk_frozen AA5.out.fr 1
    rw [rounds_succ]
    go_wp2
    have z1 := (AA5.out.b.setCell (p := ⟨n + 1, 0, none⟩) (by simp) (.int .i64 0)).setCell (p := ⟨n + 1, 1, none⟩) (by simp) (.slice (some ⟨w4.heap.size + 1, 0, none⟩) 1 C)
    have zb := blk_set (blk_set AA5.out.fr 0 (.int .i64 0)) 1 (.slice (some ⟨w4.heap.size + 1, 0, none⟩) 1 C)
    have e0 : ((w5.setCell ⟨n + 1, 0, none⟩ (.int .i64 0)).setCell ⟨n + 1, 1, none⟩ (.slice (some ⟨w4.heap.size + 1, 0, none⟩) 1 C)).cell? ⟨n + 1, 0, none⟩ = some (.int .i64 0) := (blk_cell zb 0).trans rfl
    have e1 : ((w5.setCell ⟨n + 1, 0, none⟩ (.int .i64 0)).setCell ⟨n + 1, 1, none⟩ (.slice (some ⟨w4.heap.size + 1, 0, none⟩) 1 C)).cell? ⟨n + 1, 1, none⟩ = some (.slice (some ⟨w4.heap.size + 1, 0, none⟩) 1 C) := (blk_cell zb 1).trans rfl
    have e2 : ((w5.setCell ⟨n + 1, 0, none⟩ (.int .i64 0)).setCell ⟨n + 1, 1, none⟩ (.slice (some ⟨w4.heap.size + 1, 0, none⟩) 1 C)).cell? ⟨w4.heap.size + 1, 0, none⟩ = some (.int .i64 1) := by
      have hn := AA5.out.lt
      rw [World.cell?_setCell_other _ _ _ _ (fun h => absurd (congrArg Addr.block h) (by simp; omega)), World.cell?_setCell_other _ _ _ _ (fun h => absurd (congrArg Addr.block h) (by simp; omega))]
      exact AA5.out.x
    clear zb q0 q1 r0 r1 qf0 qf1
    generalize (w5.setCell ⟨n + 1, 0, none⟩ (.int .i64 0)).setCell ⟨n + 1, 1, none⟩ (.slice (some ⟨w4.heap.size + 1, 0, none⟩) 1 C) = w6 at *
    refine bodyPost_ret (by simp [results, Tryz.results102, go_sem, e0, e1]; rfl) rfl ?_
    exact ⟨_, _, rfl, e2, by have := HN.out; have := AA5.out.lt; omega, HN.out ▸ z1⟩
set_option maxRecDepth 100000 in
set_option maxHeartbeats 4000000 in
/-- band.Within of one and none, one wide. -/
theorem within_10 (w : World) (X cx : Nat) (A : Option Addr) (cy : Nat) : Calls Tryz.prog 85 #[.slice (some ⟨X, 0, none⟩) 1 cx, .slice A 0 cy, .int .i64 1] w fun e w' => e = .returned (.tuple #[.int .i64 1, .int .i64 2, .int .i64 0]) ∧ Below w.heap.size w w' := by
  have h1 : IntKind.i64.wrap 1 = 1 := by decide
  have h2 : IntKind.i64.wrap 2 = 2 := by decide
  go_enter Tryz.func85, Tryz.ntmps85
  go_wp2_with fail
  refine (edges_10 w).mono ?_
  rintro e w' ⟨rfl, hw⟩
  have hw := hw.symm
  subst hw
  go_wp2_with fail
  obtain ⟨w1, hw1⟩ : ∃ w1, w1 = w.alloc (.cells #[.int .i64 0, .slice none 0 0] 156) := ⟨_, rfl⟩
  have R1 := Sd.mk (show w1.heap[w.heap.size]? = some (.cells #[.int .i64 0, .slice none 0 0] 156 (0, 0)) from hw1 ▸ blk_new w _)
  have B1 := Sd.mk (show Below w.heap.size w w1 from hw1 ▸ (Below.refl _ _).alloc (Nat.le_refl _) _)
  rw [← hw1]
  clear hw1
  have r0 : w1.cell? ⟨w.heap.size, 0, none⟩ = some (.int .i64 0) := (blk_cell R1.out 0).trans rfl
  have r1 : w1.cell? ⟨w.heap.size, 1, none⟩ = some (.slice none 0 0) := (blk_cell R1.out 1).trans rfl
  refine wp_loop_rounds 3 ?_
  rw [rounds_succ]
  go_wp2_with fail
  clear r0 r1
  refine (next_0 w1 X cx A cy).mono ?_
  rintro e w2 ⟨g, c, rfl, hc, hg, hb⟩
  have R2 := Sd.mk (blk_below R1.out hb (blk_lt R1.out))
  have B2 := Sd.mk (B1.out.trans (hb.mono B1.out.size))
  have C2 := Sd.mk hc
  have lt1 := Sd.mk (show w.heap.size < g by have := blk_lt R1.out; omega)
  clear hc hb R1 B1 hg
  have f0 := blk_frozen R2.out 0
  have f1 := blk_frozen R2.out 1
  have r0 : w2.cell? ⟨w.heap.size, 0, none⟩ = some (.int .i64 0) := (blk_cell R2.out 0).trans rfl
  have r1 : w2.cell? ⟨w.heap.size, 1, none⟩ = some (.slice none 0 0) := (blk_cell R2.out 1).trans rfl
  go_wp2_with fail
  have E3 : ((w2.setCell ⟨w.heap.size, 0, none⟩ (.int .i64 0)).setCell ⟨w.heap.size, 1, none⟩ (.slice (some ⟨g, 0, none⟩) 1 c)).cell? ⟨g, 0, none⟩ = some (.int .i64 0) := by
    have hn := lt1.out
    rw [World.cell?_setCell_other _ _ _ _ (fun h => absurd (congrArg Addr.block h) (by simp; omega)), World.cell?_setCell_other _ _ _ _ (fun h => absurd (congrArg Addr.block h) (by simp; omega))]
    exact C2.out
  have R3 := Sd.mk (blk_set (blk_set R2.out 0 (.int .i64 0)) 1 (.slice (some ⟨g, 0, none⟩) 1 c))
  have B3 := Sd.mk ((B2.out.setCell (p := ⟨w.heap.size, 0, none⟩) (by simp) (.int .i64 0)).setCell (p := ⟨w.heap.size, 1, none⟩) (by simp) (.slice (some ⟨g, 0, none⟩) 1 c))
  obtain ⟨w3, hw3⟩ : ∃ w3, w3 = (w2.setCell ⟨w.heap.size, 0, none⟩ (.int .i64 0)).setCell ⟨w.heap.size, 1, none⟩ (.slice (some ⟨g, 0, none⟩) 1 c) := ⟨_, rfl⟩
  rw [← hw3] at E3 R3 B3 ⊢
  have C3 := Sd.mk E3
  clear hw3 R2 B2 C2 f0 f1 r0 r1 E3
  have r0 : w3.cell? ⟨w.heap.size, 0, none⟩ = some (.int .i64 0) := (blk_cell R3.out 0).trans rfl
  have r1 : w3.cell? ⟨w.heap.size, 1, none⟩ = some (.slice (some ⟨g, 0, none⟩) 1 c) := (blk_cell R3.out 1).trans rfl
  rw [rounds_succ]
  go_wp2_with fail
  clear r0 r1
  refine (next_1 w3 X cx g c A cy C3.out).mono ?_
  rintro e w4 ⟨g2, c2, rfl, hc, hg, hb⟩
  have lt2 := Sd.mk (show w.heap.size < g2 by have := blk_lt R3.out; omega)
  have R4 := Sd.mk (blk_below R3.out hb (blk_lt R3.out))
  have B4 := Sd.mk (B3.out.trans (hb.mono B3.out.size))
  have C4 := Sd.mk hc
  clear hc hb R3 B3 C3 hg lt1
  have f0 := blk_frozen R4.out 0
  have f1 := blk_frozen R4.out 1
  have r0 : w4.cell? ⟨w.heap.size, 0, none⟩ = some (.int .i64 0) := (blk_cell R4.out 0).trans rfl
  have r1 : w4.cell? ⟨w.heap.size, 1, none⟩ = some (.slice (some ⟨g, 0, none⟩) 1 c) := (blk_cell R4.out 1).trans rfl
  go_wp2_with fail
  have E3 : ((w4.setCell ⟨w.heap.size, 0, none⟩ (.int .i64 0)).setCell ⟨w.heap.size, 1, none⟩ (.slice (some ⟨g2, 0, none⟩) 1 c2)).cell? ⟨g2, 0, none⟩ = some (.int .i64 1) := by
    have hn := lt2.out
    rw [World.cell?_setCell_other _ _ _ _ (fun h => absurd (congrArg Addr.block h) (by simp; omega)), World.cell?_setCell_other _ _ _ _ (fun h => absurd (congrArg Addr.block h) (by simp; omega))]
    exact C4.out
  have R5 := Sd.mk (blk_set (blk_set R4.out 0 (.int .i64 0)) 1 (.slice (some ⟨g2, 0, none⟩) 1 c2))
  have B5 := Sd.mk ((B4.out.setCell (p := ⟨w.heap.size, 0, none⟩) (by simp) (.int .i64 0)).setCell (p := ⟨w.heap.size, 1, none⟩) (by simp) (.slice (some ⟨g2, 0, none⟩) 1 c2))
  obtain ⟨w5, hw5⟩ : ∃ w5, w5 = (w4.setCell ⟨w.heap.size, 0, none⟩ (.int .i64 0)).setCell ⟨w.heap.size, 1, none⟩ (.slice (some ⟨g2, 0, none⟩) 1 c2) := ⟨_, rfl⟩
  rw [← hw5] at E3 R5 B5 ⊢
  have C5 := Sd.mk E3
  clear hw5 R4 B4 C4 f0 f1 r0 r1 E3
  have r0 : w5.cell? ⟨w.heap.size, 0, none⟩ = some (.int .i64 0) := (blk_cell R5.out 0).trans rfl
  have r1 : w5.cell? ⟨w.heap.size, 1, none⟩ = some (.slice (some ⟨g2, 0, none⟩) 1 c2) := (blk_cell R5.out 1).trans rfl
  rw [rounds_succ]
  go_wp2_with fail
  clear r0 r1
  refine (at_in w5 g2 c2 1 C5.out).mono ?_
  rintro e w6 ⟨rfl, hb⟩
  have B6 := Sd.mk (B5.out.trans (hb.mono B5.out.size))
  clear hb R5 B5 C5
  go_wp2_with fail
  refine (cells_10 w6).mono ?_
  rintro e w' ⟨rfl, hw⟩
  have hw := hw.symm
  subst hw
  go_wp2
  refine bodyPost_ret (by simp [results, Tryz.results85, go_sem]; rfl) rfl ?_
  exact ⟨rfl, B6.out⟩
theorem CutAB.below {w w' : World} {n : Nat} {ta tb x y u v t0 t1 t2 : Value} (h : CutAB w n ta tb x y u v t0 t1 t2) (hb : Below w.heap.size w w') : CutAB w' n ta tb x y u v t0 t1 t2 :=
  ⟨own_below h.ta hb, own_below h.tb hb, h.k0.below hb, h.k1.below hb, h.k2.below hb, own_below h.x hb, own_below h.y hb, own_below h.u hb, own_below h.v hb⟩
set_option maxRecDepth 100000 in
set_option maxHeartbeats 4000000 in
/-- port.Near of ab and b, up to one. -/
theorem near_ab (w : World) (ga gb : Nat) (a0 : w.cell? ⟨ga, 0, none⟩ = some (.int .u8 97)) (a1 : w.cell? ⟨ga, 1, none⟩ = some (.int .u8 98)) (b0 : w.cell? ⟨gb, 0, none⟩ = some (.int .u8 98)) :
    Calls Tryz.prog 40 #[.int .i64 0, .slice (some ⟨ga, 0, none⟩) 2 2, .slice (some ⟨gb, 0, none⟩) 1 1, .int .i64 1] w fun e w' => e = .returned (.tuple #[.int .i64 1, .int .i64 0]) ∧ Below w.heap.size w w' := by
  have A0 := Sd.mk a0
  have A1 := Sd.mk a1
  have B0 := Sd.mk b0
  clear a0 a1 b0
  go_enter Tryz.func40, Tryz.ntmps40
  go_wp2_with fail
  refine (port_cut w ga gb A0.out A1.out B0.out).mono ?_
  rintro e w2 ⟨ta, tb, x, y, u, v, t0, t1, t2, rfl, ⟨p1, p2, -, -, -⟩, ⟨p6, p7⟩, ⟨p8, p9⟩, hb⟩
  obtain ⟨T1, c1, rfl⟩ := own_slice p1
  obtain ⟨T2, c2, rfl⟩ := own_slice p2
  obtain ⟨T3, c3, rfl⟩ := own_slice p6
  obtain ⟨T4, c4, rfl⟩ := own_slice p7
  obtain ⟨U, cu, rfl⟩ := own_form p8 (by decide)
  obtain ⟨V, cv, rfl⟩ := own_slice p9
  have HB := Sd.mk hb
  clear hb p1 p2 p6 p7 p8 p9
  go_wp2_with fail
  have ba := below_both HB.out ((Below.refl _ _).alloc (Nat.le_refl _) (.cells #[.slice T1 2 c1, .slice T2 1 c2, .slice T3 2 c3, .slice T4 1 c4, .int .i64 0, .int .i64 1, .slice (some ⟨U, 0, none⟩) 1 cu, .slice V 0 cv] 84))
  have BA := Sd.mk ba
  clear A0 A1 B0 HB ba
  refine (within_10 _ U cu V cv).mono ?_
  rintro e w4 ⟨rfl, hb⟩
  have BB := Sd.mk (below_both BA.out hb)
  clear hb BA
  go_wp2
  refine bodyPost_ret (by simp [results, Tryz.results40, go_sem]; rfl) rfl ?_
  exact ⟨rfl, BB.out⟩
theorem own_pair {W : World} {B : Nat} {v p q : Value} (h : W.ownsRow B 71 2 v 1 [p, q]) : ∃ g c, v = .slice (some ⟨g, 0, none⟩) 1 c ∧ W.cell? ⟨g, 0, none⟩ = some p ∧ W.cell? ⟨g, 1, none⟩ = some q ∧ B ≤ g := by
  obtain ⟨g, cap, cur, h1, h2, h3, h4, h5, h6⟩ := own_block h (by decide)
  refine ⟨g, cap, h1, ?_, ?_, h2⟩
  · rw [blk_cell h3 0, take_at h6 0 (by decide)]; rfl
  · rw [blk_cell h3 1, take_at h6 1 (by decide)]; rfl
/-- What holds within Diff: the answer's block, the task's block, what is cut. -/
structure DF (w0 : World) (n m T : Nat) (ta tb x y u v t0 t1 t2 : Value) (W : World) : Prop where
  b : Below n w0 W
  ans : W.heap[n + 1]? = some (.cells #[.int .i64 0, .int .i64 0, .int .i64 0, .int .i64 0, .slice none 0 0, .slice none 0 0] 40 (0, 0))
  task : W.heap[T]? = some (.cells #[ta, tb, x, y, .int .i64 0, .int .i64 1, u, v] 84 (0, 0))
  cut : CutAB W m ta tb x y u v t0 t1 t2
theorem DF.step {w0 : World} {n m T : Nat} {ta tb x y u v t0 t1 t2 : Value} {W W' : World} (h : DF w0 n m T ta tb x y u v t0 t1 t2 W) (hb : Below W.heap.size W W') : DF w0 n m T ta tb x y u v t0 t1 t2 W' :=
  ⟨h.b.trans (hb.mono (by have := blk_lt h.ans; omega)), blk_below h.ans hb (blk_lt h.ans), blk_below h.task hb (blk_lt h.task), h.cut.below hb⟩
set_option maxRecDepth 100000 in
set_option maxHeartbeats 4000000 in
/-- port.Diff of ab and b, no engine named. -/
theorem diff_ab (w : World) (ga gb : Nat) (a0 : w.cell? ⟨ga, 0, none⟩ = some (.int .u8 97)) (a1 : w.cell? ⟨ga, 1, none⟩ = some (.int .u8 98)) (b0 : w.cell? ⟨gb, 0, none⟩ = some (.int .u8 98)) :
    Calls Tryz.prog 16 #[.int .i64 0, .int .i64 0, .slice (some ⟨ga, 0, none⟩) 2 2, .slice (some ⟨gb, 0, none⟩) 1 1, .agg #[.int .i64 1000, .int .i64 1099511627776]] w fun e w' => ∃ g c gs cs, e = .returned (.tuple #[.agg #[.int .i64 2, .int .i64 1, .int .i64 1, .int .i64 1, .slice (some ⟨g, 0, none⟩) 1 c, .slice (some ⟨gs, 0, none⟩) 1 cs], .int .i64 0]) ∧ w'.cell? ⟨g, 0, none⟩ = some (.int .i64 1) ∧ Below w.heap.size w w' := by
  have h1 : IntKind.i64.wrap 1 = 1 := by decide
  have h2 : IntKind.i64.wrap 2 = 2 := by decide
  have h3 : IntKind.i64.wrap 3 = 3 := by decide
  have A0 := Sd.mk a0
  have A1 := Sd.mk a1
  have B0 := Sd.mk b0
  clear a0 a1 b0
  go_enter Tryz.func16, Tryz.ntmps16
  go_wp2_with fail
  obtain ⟨w1, hw1⟩ : ∃ z, z = ((w.alloc (.cells #[.int .i64 1000, .int .i64 1099511627776] 37)).alloc (.cells #[.int .i64 0, .int .i64 0, .int .i64 0, .int .i64 0, .slice none 0 0, .slice none 0 0] 40)) := ⟨_, rfl⟩
  have z1 : ((w.alloc (.cells #[.int .i64 1000, .int .i64 1099511627776] 37))).heap.size = w.heap.size + 1 := by rw [World.size_alloc]
  have ba : Below w.heap.size w w1 := by
    rw [hw1]
    repeat' (first | exact Below.refl _ _ | refine Below.alloc ?_ (by simp <;> omega) _)
  have HR : Sd (w1.heap[w.heap.size + 1]? = some (.cells #[.int .i64 0, .int .i64 0, .int .i64 0, .int .i64 0, .slice none 0 0, .slice none 0 0] 40 (0, 0))) := ⟨by rw [hw1, ← z1]; exact blk_new _ _⟩
  have B : Sd (Below w.heap.size w w1) := ⟨ba⟩
  rw [← hw1]
  clear hw1 ba z1
  refine (port_ready w1 ga gb (cell_below A0.out B.out) (cell_below A1.out B.out) (cell_below B0.out B.out)).mono ?_
  rintro e w2 ⟨ta, tb, x, y, u, v, t0, t1, t2, rfl, hcut, hb⟩
  obtain ⟨T1, c1, rfl⟩ := own_form hcut.ta (by decide)
  obtain ⟨T2, c2, rfl⟩ := own_form hcut.tb (by decide)
  obtain ⟨T3, c3, rfl⟩ := own_form hcut.x (by decide)
  obtain ⟨T4, c4, rfl⟩ := own_form hcut.y (by decide)
  obtain ⟨T5, c5, rfl⟩ := own_form hcut.u (by decide)
  obtain ⟨T6, c6, rfl⟩ := own_slice hcut.v
  have HR := Sd.mk (blk_below HR.out hb (blk_lt HR.out))
  have B := Sd.mk (below_both B.out hb)
  have CT := Sd.mk hcut
  generalize w1.heap.size = m at *
  clear hb hcut A0 A1 B0
  go_wp2_with fail
  obtain ⟨w3, hw3⟩ : ∃ z, z = w2.alloc (.cells #[.slice (some ⟨T1, 0, none⟩) 2 c1, .slice (some ⟨T2, 0, none⟩) 1 c2, .slice (some ⟨T3, 0, none⟩) 2 c3, .slice (some ⟨T4, 0, none⟩) 1 c4, .int .i64 0, .int .i64 1, .slice (some ⟨T5, 0, none⟩) 1 c5, .slice T6 0 c6] 84) := ⟨_, rfl⟩
  have D3 : DF w w.heap.size m w2.heap.size (.slice (some ⟨T1, 0, none⟩) 2 c1) (.slice (some ⟨T2, 0, none⟩) 1 c2) (.slice (some ⟨T3, 0, none⟩) 2 c3) (.slice (some ⟨T4, 0, none⟩) 1 c4) (.slice (some ⟨T5, 0, none⟩) 1 c5) (.slice T6 0 c6) t0 t1 t2 w3 := by
    have hb : Below w2.heap.size w2 w3 := by rw [hw3]; exact (Below.refl _ _).alloc (Nat.le_refl _) _
    exact ⟨below_both B.out hb, blk_below HR.out hb (blk_lt HR.out), by rw [hw3]; exact blk_new _ _, CT.out.below hb⟩
  have DD := Sd.mk D3
  clear D3 HR B CT
  rw [← hw3]
  clear hw3
  generalize hT : w2.heap.size = T at *
  clear hT w2
  generalize hN : w.heap.size = n at *
  have HN := Sd.mk hN
  clear hN
  have q0 : w3.cell? ⟨T, 0, none⟩ = _ := (blk_cell DD.out.task 0).trans rfl
  have q1 : w3.cell? ⟨T, 1, none⟩ = _ := (blk_cell DD.out.task 1).trans rfl
  go_quiet (fail)
  clear q0 q1
  obtain ⟨w4, hw4⟩ : ∃ z, z = w3.drewN nq := ⟨_, rfl⟩
  replace DD := Sd.mk (DD.out.step (hw4 ▸ below_drewN' (Below.refl _ _) nq : Below w3.heap.size w3 w4))
  rw [← hw4]
  clear hw4 w3
  have q6 : w4.cell? ⟨T, 6, none⟩ = some (.slice (some ⟨T5, 0, none⟩) 1 c5) := (blk_cell DD.out.task 6).trans rfl
  have q7 : w4.cell? ⟨T, 7, none⟩ = some (.slice T6 0 c6) := (blk_cell DD.out.task 7).trans rfl
  go_wp2_with fail
  clear q6 q7
  refine (port_run_10 w4 T5 c5 c6 T6).mono ?_
  rintro e w5 ⟨rfl, hb⟩
  replace DD := Sd.mk (DD.out.step hb)
  clear hb w4
  have q4 : w5.cell? ⟨T, 4, none⟩ = some (.int .i64 0) := (blk_cell DD.out.task 4).trans rfl
  have q5 : w5.cell? ⟨T, 5, none⟩ = some (.int .i64 1) := (blk_cell DD.out.task 5).trans rfl
  go_wp2_with fail
  clear q4 q5
  refine (grow_ab w5).mono ?_
  rintro e w6 ⟨gv, rfl, ho, hb⟩
  obtain ⟨g, c, rfl, p0, p1, -⟩ := own_pair ho
  replace DD := Sd.mk (DD.out.step hb)
  have P := Sd.mk (And.intro p0 p1)
  clear hb ho p0 p1 w5
  have q2 : w6.cell? ⟨T, 2, none⟩ = some (.slice (some ⟨T3, 0, none⟩) 2 c3) := (blk_cell DD.out.task 2).trans rfl
  have q3 : w6.cell? ⟨T, 3, none⟩ = some (.slice (some ⟨T4, 0, none⟩) 1 c4) := (blk_cell DD.out.task 3).trans rfl
  go_wp2_with fail
  clear q2 q3
  have X0 := own_cell DD.out.cut.x 0 (by decide)
  have X1 := own_cell DD.out.cut.x 1 (by decide)
  have Y0 := own_cell DD.out.cut.y 0 (by decide)
  refine (canon_ab w6 T3 T4 g c3 c4 c X0 X1 Y0 P.out.1 P.out.2).mono ?_
  clear X0 X1 Y0
  rintro e w7 ⟨gv, rfl, ho, hb⟩
  clear P
  obtain ⟨g', c', rfl, p0, p1, hg⟩ := own_pair ho
  have LT := Sd.mk (show n + 1 < g' by have := blk_lt DD.out.ans; omega)
  clear hg
  replace DD := Sd.mk (DD.out.step hb)
  have P := Sd.mk (And.intro p0 p1)
  clear hb ho p0 p1 w6
  have q0 : w7.cell? ⟨T, 0, none⟩ = some (.slice (some ⟨T1, 0, none⟩) 2 c1) := (blk_cell DD.out.task 0).trans rfl
  have q1 : w7.cell? ⟨T, 1, none⟩ = some (.slice (some ⟨T2, 0, none⟩) 1 c2) := (blk_cell DD.out.task 1).trans rfl
  go_wp2_with fail
  clear q0 q1
  have S0 := own_cell DD.out.cut.ta 0 (by decide)
  have S1 := own_cell DD.out.cut.ta 1 (by decide)
  have S2 := own_cell DD.out.cut.tb 0 (by decide)
  refine (make_ab w7 T1 T2 c1 c2 g' c' t0 t1 t2 97 98 S0 S1 S2 DD.out.cut.k0 DD.out.cut.k1 DD.out.cut.k2 (by decide +kernel) (by decide +kernel) (by decide +kernel) (by decide +kernel) (by decide +kernel) P.out.1 P.out.2 (own_cap DD.out.cut.ta) (own_cap DD.out.cut.tb)).mono ?_
  clear S0 S1 S2
  rintro e w8 ⟨⟨gs, cs, rfl⟩, hb⟩
  replace DD := Sd.mk (DD.out.step hb)
  replace P := Sd.mk (cell_below P.out.1 hb)
  clear hb w7
  have q0 : w8.cell? ⟨n + 1, 0, none⟩ = some (.int .i64 0) := (blk_cell DD.out.ans 0).trans rfl
  have f0 := blk_frozen DD.out.ans 0
  have q1 : w8.cell? ⟨n + 1, 1, none⟩ = some (.int .i64 0) := (blk_cell DD.out.ans 1).trans rfl
  have f1 := blk_frozen DD.out.ans 1
  have q2 : w8.cell? ⟨n + 1, 2, none⟩ = some (.int .i64 0) := (blk_cell DD.out.ans 2).trans rfl
  have f2 := blk_frozen DD.out.ans 2
  have q3 : w8.cell? ⟨n + 1, 3, none⟩ = some (.int .i64 0) := (blk_cell DD.out.ans 3).trans rfl
  have f3 := blk_frozen DD.out.ans 3
  have q4 : w8.cell? ⟨n + 1, 4, none⟩ = some (.slice none 0 0) := (blk_cell DD.out.ans 4).trans rfl
  have f4 := blk_frozen DD.out.ans 4
  have q5 : w8.cell? ⟨n + 1, 5, none⟩ = some (.slice none 0 0) := (blk_cell DD.out.ans 5).trans rfl
  have f5 := blk_frozen DD.out.ans 5
  go_wp2_with fail
  have z := blk_set (blk_set (blk_set (blk_set (blk_set (blk_set DD.out.ans 0 (.int .i64 2)) 1 (.int .i64 1)) 2 (.int .i64 1)) 3 (.int .i64 1)) 4 (.slice (some ⟨g', 0, none⟩) 1 c')) 5 (.slice (some ⟨gs, 0, none⟩) 1 cs)
  have B9 : Below n w ((((((w8.setCell ⟨n + 1, 0, none⟩ (.int .i64 2)).setCell ⟨n + 1, 1, none⟩ (.int .i64 1)).setCell ⟨n + 1, 2, none⟩ (.int .i64 1)).setCell ⟨n + 1, 3, none⟩ (.int .i64 1)).setCell ⟨n + 1, 4, none⟩ (.slice (some ⟨g', 0, none⟩) 1 c')).setCell ⟨n + 1, 5, none⟩ (.slice (some ⟨gs, 0, none⟩) 1 cs)) := by
    repeat' (first | exact DD.out.b | refine Below.setCell ?_ (by simp) _)
  have P9 : ((((((w8.setCell ⟨n + 1, 0, none⟩ (.int .i64 2)).setCell ⟨n + 1, 1, none⟩ (.int .i64 1)).setCell ⟨n + 1, 2, none⟩ (.int .i64 1)).setCell ⟨n + 1, 3, none⟩ (.int .i64 1)).setCell ⟨n + 1, 4, none⟩ (.slice (some ⟨g', 0, none⟩) 1 c')).setCell ⟨n + 1, 5, none⟩ (.slice (some ⟨gs, 0, none⟩) 1 cs)).cell? ⟨g', 0, none⟩ = some (.int .i64 1) := by
    have hl := LT.out
    repeat rw [World.cell?_setCell_other _ _ _ _ (fun h => absurd (congrArg Addr.block h) (by simp; omega))]
    exact P.out
  generalize (((((w8.setCell ⟨n + 1, 0, none⟩ (.int .i64 2)).setCell ⟨n + 1, 1, none⟩ (.int .i64 1)).setCell ⟨n + 1, 2, none⟩ (.int .i64 1)).setCell ⟨n + 1, 3, none⟩ (.int .i64 1)).setCell ⟨n + 1, 4, none⟩ (.slice (some ⟨g', 0, none⟩) 1 c')).setCell ⟨n + 1, 5, none⟩ (.slice (some ⟨gs, 0, none⟩) 1 cs) = w9 at *
  have e0 : w9.cell? ⟨n + 1, 0, none⟩ = some (.int .i64 2) := (blk_cell z 0).trans rfl
  have e1 : w9.cell? ⟨n + 1, 1, none⟩ = some (.int .i64 1) := (blk_cell z 1).trans rfl
  have e2 : w9.cell? ⟨n + 1, 2, none⟩ = some (.int .i64 1) := (blk_cell z 2).trans rfl
  have e3 : w9.cell? ⟨n + 1, 3, none⟩ = some (.int .i64 1) := (blk_cell z 3).trans rfl
  have e4 : w9.cell? ⟨n + 1, 4, none⟩ = some ((.slice (some ⟨g', 0, none⟩) 1 c')) := (blk_cell z 4).trans rfl
  have e5 : w9.cell? ⟨n + 1, 5, none⟩ = some ((.slice (some ⟨gs, 0, none⟩) 1 cs)) := (blk_cell z 5).trans rfl
  clear z q0 q1 q2 q3 q4 q5 f0 f1 f2 f3 f4 f5
  refine bodyPost_ret (by simp [results, Tryz.results16, go_sem, e0, e1, e2, e3, e4, e5]; rfl) rfl ?_
  exact ⟨_, _, _, _, rfl, P9, HN.out ▸ B9⟩
theorem conv_new (w : World) (C : Array Value) (n c : Nat) : (convert 35 35 (.slice (some ⟨w.heap.size, 0, none⟩) n c)).run Tryz.prog (w.alloc (.cells C 5)) = .ok (.slice (some ⟨w.heap.size, 0, none⟩) n c) (w.alloc (.cells C 5 (C.size, C.size + 1))) :=
  Lib.run_convert_bytes_const (P := Tryz.prog) w 35 5 C n c Tryz.underlying35 Tryz.underlying5
theorem conv_new2 (w : World) (o : Obj) (C : Array Value) (n c : Nat) : (convert 35 35 (.slice (some ⟨w.heap.size + 1, 0, none⟩) n c)).run Tryz.prog ((w.alloc o).alloc (.cells C 5)) = .ok (.slice (some ⟨w.heap.size + 1, 0, none⟩) n c) ((w.alloc o).alloc (.cells C 5 (C.size, C.size + 1))) := by
  have h := conv_new (w.alloc o) C n c
  rwa [World.size_alloc] at h
theorem mk_cell (w : World) (C : Array Value) (fr : Nat × Nat) (i : Nat) : (w.alloc (.cells C 5 fr)).cell? ⟨w.heap.size, i, none⟩ = C[i]? := by
  unfold World.cell?
  rw [blk_new]
  rfl
/-- The two texts in memory. -/
theorem ab_new (w : World) : ∃ w1, w1 = (w.alloc (.cells #[.int .u8 97, .int .u8 98] 5 (2, 3))).alloc (.cells #[.int .u8 98] 5 (1, 2)) ∧ w1.cell? ⟨w.heap.size, 0, none⟩ = some (.int .u8 97) ∧ w1.cell? ⟨w.heap.size, 1, none⟩ = some (.int .u8 98) ∧ w1.cell? ⟨w.heap.size + 1, 0, none⟩ = some (.int .u8 98) ∧ Below w.heap.size w w1 := by
  have hz : (w.alloc (.cells #[.int .u8 97, .int .u8 98] 5 (2, 3))).heap.size = w.heap.size + 1 := World.size_alloc _ _
  have e := mk_cell (w.alloc (.cells #[.int .u8 97, .int .u8 98] 5 (2, 3))) #[.int .u8 98] (1, 2) 0
  rw [hz] at e
  have b1 := (Below.refl w.heap.size w).alloc (Nat.le_refl _) (.cells #[.int .u8 97, .int .u8 98] 5 (2, 3))
  have b2 := (Below.refl (w.heap.size + 1) (w.alloc (.cells #[.int .u8 97, .int .u8 98] 5 (2, 3)))).alloc (by omega) (.cells #[.int .u8 98] 5 (1, 2))
  refine ⟨_, rfl, (b2.cell (by simp)).trans (mk_cell w _ _ 0), (b2.cell (by simp)).trans (mk_cell w _ _ 1), e, b1.trans (b2.mono (by omega))⟩
set_option maxRecDepth 100000 in
set_option maxHeartbeats 4000000 in
/-- awake answers true. -/
theorem awake_true (w : World) : Calls Tryz.prog 9 #[] w fun e w' => e = .returned (.bool true) ∧ Below w.heap.size w w' := by
  have hc1 := conv_new
  have hc2 := conv_new2
  go_enter Tryz.func9, Tryz.ntmps9
  go_wp2_with fail
  obtain ⟨w1, hw1, p0, p1, p2, hb⟩ := ab_new w
  rw [← hw1]
  have P := Sd.mk (And.intro p0 (And.intro p1 p2))
  have B := Sd.mk hb
  clear hw1 p0 p1 p2 hb
  refine (wide_top w1).mono ?_
  rintro e w2 ⟨rfl, hb⟩
  replace P := Sd.mk (And.intro (cell_below P.out.1 hb) (And.intro (cell_below P.out.2.1 hb) (cell_below P.out.2.2 hb)))
  replace B := Sd.mk (below_both B.out hb)
  clear hb w1
  go_wp2_with fail
  refine (diff_ab w2 w.heap.size (w.heap.size + 1) P.out.1 P.out.2.1 P.out.2.2).mono ?_
  rintro e w3 ⟨g, c, gs, cs, rfl, hg, hb⟩
  replace B := Sd.mk (below_both B.out hb)
  have G := Sd.mk hg
  clear hb hg P w2
  go_wp2_with fail
  obtain ⟨w4, hw4⟩ : ∃ z, z = w3.alloc (.cells #[.int .i64 2, .int .i64 1, .int .i64 1, .int .i64 1, .slice (some ⟨g, 0, none⟩) 1 c, .slice (some ⟨gs, 0, none⟩) 1 cs] 40) := ⟨_, rfl⟩
  have hn : w4.heap[w3.heap.size]? = some (.cells #[.int .i64 2, .int .i64 1, .int .i64 1, .int .i64 1, .slice (some ⟨g, 0, none⟩) 1 c, .slice (some ⟨gs, 0, none⟩) 1 cs] 40 (0, 0)) := hw4 ▸ blk_new _ _
  have hb : Below w3.heap.size w3 w4 := by rw [hw4]; exact (Below.refl _ _).alloc (Nat.le_refl _) _
  replace B := Sd.mk (below_both B.out hb)
  replace G := Sd.mk (cell_below G.out hb)
  have A := Sd.mk hn
  have hz : w4.heap.size = w3.heap.size + 1 := by rw [hw4, World.size_alloc]
  have hc3 : ∀ (o : Obj) (C : Array Value) (n c : Nat), (convert 35 35 (.slice (some ⟨w3.heap.size + 1 + 1, 0, none⟩) n c)).run Tryz.prog ((w4.alloc o).alloc (.cells C 5)) = .ok (.slice (some ⟨w3.heap.size + 1 + 1, 0, none⟩) n c) ((w4.alloc o).alloc (.cells C 5 (C.size, C.size + 1))) := fun o C n c => hz ▸ conv_new2 w4 o C n c
  rw [← hw4]
  clear hw4 hn hb
  obtain ⟨w5, hw5, p0, p1, p2, hb⟩ := ab_new w4
  rw [hz] at p0 p1 p2
  clear hz
  generalize w3.heap.size = m at *
  rw [hc3]
  clear hc1 hc2 hc3
  rw [show (#[Value.int .u8 98] : Array Value).size = 1 from rfl, ← hw5]
  have P := Sd.mk (And.intro p0 (And.intro p1 p2))
  replace B := Sd.mk (below_both B.out hb)
  replace G := Sd.mk (cell_below G.out hb)
  replace A := Sd.mk (blk_below A.out hb (blk_lt A.out))
  clear hw5 p0 p1 p2 hb
  go_wp2_with fail
  refine (near_ab w5 (m + 1) (m + 1 + 1) P.out.1 P.out.2.1 P.out.2.2).mono ?_
  rintro e w6 ⟨rfl, hb⟩
  replace B := Sd.mk (below_both B.out hb)
  replace G := Sd.mk (cell_below G.out hb)
  replace A := Sd.mk (blk_below A.out hb (blk_lt A.out))
  clear hb P w5
  have g0 := G.out
  have a2 : w6.cell? ⟨m, 2, none⟩ = some (.int .i64 1) := (blk_cell A.out 2).trans rfl
  have a3 : w6.cell? ⟨m, 3, none⟩ = some (.int .i64 1) := (blk_cell A.out 3).trans rfl
  have a4 : w6.cell? ⟨m, 4, none⟩ = some (.slice (some ⟨g, 0, none⟩) 1 c) := (blk_cell A.out 4).trans rfl
  go_wp2
  refine bodyPost_ret (by simp [results, Tryz.results9, go_sem]; rfl) rfl ?_
  exact ⟨rfl, B.out⟩
end Go.Proofs.YtjkjanegankdhaaGreat.Top
