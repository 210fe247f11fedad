/- The run of awake, first part: tokens, numbers, the task. -/
import Derived.Defers
import Derived.Tactics2
import Derived.Laws.Pointers
import Derived.Laws.LoneSync
import Derived.RegionTactic
import Derived.RegionCalls
import Derived.Laws.NewBlocks
import Derived.WalkKit
import Derived.Below
import Derived.Deep.Draws
import Derived.Deep.AppendLies
import Derived.Maps.AppendAt
import Derived.OwnWalk
import Derived.Laws.MakeOwn
import Derived.Laws.OwnMore
import Derived.Deep.OwnRows
import Derived.LoopN
import Derived.Lib.SliceRun
import Derived.RowKit
import Derived.RowKit3
import Derived.BigRegion
import Derived.Deep.RegionWith
import Derived.Deep.QuietTactic
import Derived.BigQuiet
import Derived.Maps.OwnOps
import Derived.Maps.OwnSet
import Derived.Laws.Rows
import Derived.Laws.ResultCell
import Derived.Laws.BytesArg
import Derived.Lib.BytesEntry
import Derived.Lib.Bytealg
import Derived.Laws.Externs
import Derived.Test.YtjkjanegankdhaaGreatProg
namespace Go.Proofs.YtjkjanegankdhaaGreat.Top
open Go.RowKit
set_option linter.unusedVariables false
set_option linter.unusedSimpArgs false
/-! memory: blocks, rows -/
/-- A fact kept out of the simplifier's sight. -/
structure Sd (p : Prop) : Prop where mk :: (out : p)
theorem blk_cell {w : World} {g : Nat} {t : TypeId} {cs : Array Value} (h : w.heap[g]? = some (.cells cs t (0, 0))) (i : Nat) : w.cell? ⟨g, i, none⟩ = cs[i]? := cell_of_row w g i cs t (0, 0) h
theorem blk_frozen {w : World} {g : Nat} {t : TypeId} {cs : Array Value} (h : w.heap[g]? = some (.cells cs t (0, 0))) (i : Nat) : w.frozen? ⟨g, i, none⟩ = false := by
  simp [World.frozen?, h]
theorem blk_lt {w : World} {g : Nat} {o : Obj} (h : w.heap[g]? = some o) : g < w.heap.size := (Array.getElem?_eq_some_iff.1 h).1
theorem blk_new (w : World) (o : Obj) : (w.alloc o).heap[w.heap.size]? = some o := heap_alloc_new w o
theorem blk_alloc {w : World} {g : Nat} {o : Obj} (h : w.heap[g]? = some o) (o' : Obj) : (w.alloc o').heap[g]? = some o := (Below.heap_alloc w o' g (blk_lt h)).trans h
theorem blk_below {w w' : World} {g n : Nat} {o : Obj} (h : w.heap[g]? = some o) (hb : Below n w w') (hn : g < n) : w'.heap[g]? = some o := (hb.block g hn).trans h
theorem cell_below {w w' : World} {a : Addr} {v : Value} (h : w.cell? a = some v) (hb : Below w.heap.size w w') : w'.cell? a = some v := (hb.cell (World.block_lt_of_cell? w a h)).trans h
/-- slices.Grow's append of so many zero values to nothing. -/
theorem run_append_zeros {P : Program} (w : World) (t u ty e : TypeId) (i : TypeInfo) (z : Value) (ht : P.underlying t = some (.slice e)) (hu : P.underlying u = some (.int .i64)) (hi : P.info? e = some i) (hz : i.zero = some z) (hs : i.size = 1)
    (n : Nat) (h0 : 0 < n) (hn : n ≤ 1000000) (hb : i.bytes ≤ 1000) :
    (Builtin.append_ #[t, u] ty #[.slice none 0 0, .int .i64 (n : Int)]).run P w =
      .ok (.slice (some ⟨w.heap.size, 0, none⟩) n (grownCap w n 0 e)) (w.drew.alloc (.cells (Builtin.zeroCells z.cells n ++ Builtin.zeroCells z.cells (grownCap w n 0 e - n)) e)) := by
  have hn' : n ≠ 0 := by omega
  have hw : IntKind.i64.wrap (n : Int) = (n : Int) := by simp [IntKind.wrap, IntKind.signed, IntKind.bits]; omega
  have h0' : ¬ (n : Int) < 0 := by omega
  have h63' : ¬ (9223372036854775807 < (n : Int)) := by omega
  have hm : n * i.bytes ≤ 1000000 * 1000 := Nat.mul_le_mul hn hb
  have h48' : ¬ (281474976710656 < Builtin.nextslicecap n 0 * i.bytes) := by rw [nextslicecap_zero h0]; omega
  have h48 : ¬ (281474976710656 < (n : Int) * (i.bytes : Int)) := by
    have e : (n : Int) * (i.bytes : Int) = ((n * i.bytes : Nat) : Int) := by simp
    rw [e]; omega
  simp [Builtin.append_, run_underlying ht, run_underlying hu, sizeOf, typeInfo, zeroValue, hi, hz, hs, hw, h0', hn', h63', h48, h48', asInt, asIntOf, Question.forced, run_firstCells_none, newRow, grownCap]
/-- An append whose run is known. -/
theorem wpList_append_run {P : Program} {w : World} {ops : Array Oper} {rest : List Oper} {o : Oper} {a : Act} {Q : Exit → Act → World → Prop} (hgd : o.guard = none) (s x : Operand) (t u : TypeId)
    (ho : o.op = .call { callee := .builtin .append, args := #[s, x], argTypes := #[t, u] }) (v y : Value) (hs : a.eval s = v) (hx : a.eval x = y) {v' : Value} {w' : World}
    (hr : (Builtin.append_ #[t, u] o.type #[v, y]).run P w = .ok v' w') (h : wpList P ops Q rest (a.put o.dst v') w') : wpList P ops Q (o :: rest) a w := by
  refine wpList_plain hgd fun K hK => ?_
  unfold Oper.wp execOp
  simp only [ho, resolve, invoke, builtin, Sem.run_bind, Sem.run_pure, Result.andThen_ok, List.map_toArray, List.map_cons, List.map_nil, hs, hx, hr]
  exact hK _ _ h
theorem info35 : ∃ i, Tryz.prog.info? 35 = some i ∧ i.zero = some (.slice none 0 0) ∧ i.size = 1 ∧ i.bytes = 24 := by
  have h : (Tryz.prog.info? 35).map (fun i => (i.zero, i.size, i.bytes)) = some (some (.slice none 0 0), 1, 24) := by kernel_rfl
  match hi : Tryz.prog.info? 35, h with
  | some i, h =>
    simp at h
    exact ⟨i, rfl, h.1, h.2.1, h.2.2⟩
set_option maxRecDepth 100000 in
/-- slices.Grow of nothing. -/
theorem grow_rows (w : World) (n : Nat) (h0 : 0 < n) (hn : n ≤ 1000000) : Calls Tryz.prog 193 #[.slice none 0 0, .int .i64 (n : Int)] w fun e w' => ∃ v, e = .returned v ∧ w'.ownsRow w.heap.size 35 1 v 0 [] ∧ Below w.heap.size w w' := by
  obtain ⟨i, hi, hz, hs, hb⟩ := info35
  have hr := run_append_zeros (P := Tryz.prog) w 82 3 82 35 i (.slice none 0 0) Tryz.underlying82 Tryz.underlying3 hi hz hs n h0 hn (by omega)
  have h1 : ¬ (n : Int) < 0 := by omega
  have h2 : (0 : Int) < (n : Int) := by omega
  go_enter Tryz.func193, Tryz.ntmps193
  go_wp2_with (at_builtin; refine wpList_append_run rfl (.tmp 20) (.tmp 21) 82 3 rfl _ _ rfl rfl hr ?_)
  go_ret
  have hge := grownCap_ge w n 0 35
  have hle := grownCap_le_maxLen w n 0 35 (by unfold maxLen; omega)
  refine ⟨_, rfl, ⟨rfl, .inr ⟨w.heap.size, _, _, rfl, Nat.le_refl _, blk_new _ _, Nat.zero_le _, hle, ?_, rfl⟩⟩, (Below.alloc (Below.refl _ _) (Nat.le_refl _) _).drew⟩
  simp only [Array.size_append, size_zeroCells]
  show n * 1 + (grownCap w n 0 35 - n) * 1 = _
  omega
set_option maxRecDepth 100000 in
/-- slices.Concat of two rows. -/
theorem concat_rows (w : World) (p : Nat) (v1 v2 : Value) (A1 A2 : Addr) (n1 n2 c1 c2 : Nat) (xs ys : List Value) (hp : w.heap[p]? = some (.cells #[.slice (some A1) n1 c1, .slice (some A2) n2 c2] 82 (0, 0)))
    (hx : xs.length = n1) (hy : ys.length = n2) (hcx : ∀ j u, xs[j]? = some u → w.cell? (A1.add j) = some u) (hcy : ∀ j u, ys[j]? = some u → w.cell? (A2.add j) = some u) (h1x : ∀ u ∈ xs, u.oneCell' = true) (h1y : ∀ u ∈ ys, u.oneCell' = true)
    (h0 : 0 < n1 + n2) (hn : n1 + n2 ≤ 1000000) :
    Calls Tryz.prog 158 #[.slice (some ⟨p, 0, none⟩) 2 2] w fun e w' => ∃ v, e = .returned v ∧ w'.ownsRow w.heap.size 35 1 v (n1 + n2) (xs ++ ys) ∧ Below w.heap.size w w' := by
  have hp0 : w.cell? ⟨p, 0, none⟩ = some (.slice (some A1) n1 c1) := (blk_cell hp 0).trans rfl
  have hp1 : w.cell? ⟨p, 1, none⟩ = some (.slice (some A2) n2 c2) := (blk_cell hp 1).trans rfl
  have X := Sd.mk hcx
  have Y := Sd.mk hcy
  clear hcx hcy hp
  have e1 : IntKind.i64.wrap (n1 : Int) = (n1 : Int) := by simp [IntKind.wrap, IntKind.signed, IntKind.bits]; omega
  have e2 : IntKind.i64.wrap ((n1 : Int) + (n2 : Int)) = (n1 : Int) + (n2 : Int) := by simp [IntKind.wrap, IntKind.signed, IntKind.bits]; omega
  have g1 : ¬ (n1 : Int) < 0 := by omega
  have g2 : ¬ (n1 : Int) + (n2 : Int) < 0 := by omega
  obtain ⟨i, hi, hz, hs, hb⟩ := info35
  have hgr := grow_rows w (n1 + n2) h0 hn
  rw [Int.natCast_add] at hgr
  have HG := Sd.mk hgr
  clear hgr
  go_enter Tryz.func158, Tryz.ntmps158
  go_wp2
  refine wp_loop_rounds 3 ?_
  rw [rounds_succ]
  go_wp2
  rw [rounds_succ]
  go_wp2
  rw [rounds_succ]
  go_wp2_with fail
  refine HG.out.mono ?_
  rintro e w1 ⟨v, rfl, ho, hb1⟩
  have O := Sd.mk ho
  have B := Sd.mk hb1
  have P1 := Sd.mk hp1
  have hq0 := cell_below hp0 hb1
  have hq1 := cell_below hp1 hb1
  have X1 := Sd.mk (fun j u hj => cell_below (X.out j u hj) hb1)
  have Z1 := Sd.mk hb1.size
  clear ho hb1 hp0 hp1 X HG
  go_wp2
  refine wp_loop_rounds 3 ?_
  rw [rounds_succ]
  go_wp2_with (at_builtin; refine wpList_append_own_at _ rfl (.tmp 31) (.tmp 32) 82 rfl w.heap.size 35 i _ 1 24 Tryz.underlying82 hi hz hs hb rfl (by decide) v 0 [] rfl O.out A1 n1 c1 xs rfl (by omega) X1.out h1x (by unfold maxLen; omega) (by omega) Z1.out ?_; intro v2 w2 ho hg hni hat; have O2 := Sd.mk ho; have B2 := Sd.mk (B.out.grown hg Z1.out (fun k hk => (O.out.lt k hk).1)); clear ho hg hni hat)
  rw [rounds_succ]
  have hq1 := cell_below P1.out B2.out
  have Y2 := Sd.mk (fun j u hj => cell_below (Y.out j u hj) B2.out)
  have Z2 := Sd.mk B2.out.size
  go_wp2_with (at_builtin; refine wpList_append_own_at _ rfl (.tmp 31) (.tmp 32) 82 rfl w.heap.size 35 i _ 1 24 Tryz.underlying82 hi hz hs hb rfl (by decide) v2 (0 + n1) ([] ++ xs) rfl O2.out A2 n2 c2 ys rfl (by omega) Y2.out h1y (by unfold maxLen; omega) (by omega) Z2.out ?_; intro v3 w3 ho hg hni hat; have O3 := Sd.mk ho; have B3 := Sd.mk (B2.out.grown hg Z2.out (fun k hk => (O2.out.lt k hk).1)); clear ho hg hni hat)
  rw [rounds_succ]
  go_wp2
  go_ret
  refine ⟨_, rfl, ?_, B3.out⟩
  have h := O3.out
  rw [Nat.zero_add, List.nil_append] at h
  exact h
theorem info5 : ∃ i, Tryz.prog.info? 5 = some i ∧ i.zero = some (.int .u8 0) ∧ i.size = 1 ∧ i.bytes = 1 := by
  have h : (Tryz.prog.info? 5).map (fun i => (i.zero, i.size, i.bytes)) = some (some (.int .u8 0), 1, 1) := by kernel_rfl
  obtain ⟨i, hi, h0, h1, h2⟩ := info_parts h
  exact ⟨i, hi, h0, h1, h2⟩
theorem info3 : ∃ i, Tryz.prog.info? 3 = some i ∧ i.zero = some (.int .i64 0) ∧ i.size = 1 ∧ i.bytes = 8 := by
  have h : (Tryz.prog.info? 3).map (fun i => (i.zero, i.size, i.bytes)) = some (some (.int .i64 0), 1, 8) := by kernel_rfl
  obtain ⟨i, hi, h0, h1, h2⟩ := info_parts h
  exact ⟨i, hi, h0, h1, h2⟩
set_option maxRecDepth 100000 in
theorem clone_bytes (w : World) (A : Addr) (n c : Nat) (xs : List Value) (hx : xs.length = n) (hc : ∀ j u, xs[j]? = some u → w.cell? (A.add j) = some u) (h1 : ∀ u ∈ xs, u.oneCell' = true) (hn : n ≤ 1000000) :
    Calls Tryz.prog 160 #[.slice (some A) n c] w fun e w' => ∃ v, e = .returned v ∧ w'.ownsRow w.heap.size 5 1 v n xs ∧ Below w.heap.size w w' := by
  obtain ⟨i, hi, hz, hs, hb⟩ := info5
  have X := Sd.mk hc
  clear hc
  have qT : ∀ (w : World), (binOp .eql 35 (.slice (some A) n c) (.slice none 0 0)).run Tryz.prog w = .ok (.bool false) w := fun w => Lib.run_eql_slice_nil w _ _ _ _ _ _ _ Tryz.underlying35
  have hown : (w.alloc (.cells #[] 5)).ownsRow w.heap.size 5 1 (.slice (some ⟨w.heap.size, 0, none⟩) 0 0) 0 [] := ⟨rfl, .inr ⟨w.heap.size, 0, _, rfl, Nat.le_refl _, blk_new _ _, Nat.le_refl _, Nat.zero_le _, rfl, rfl⟩⟩
  have hb1 : Below w.heap.size w (w.alloc (.cells #[] 5)) := (Below.refl _ _).alloc (Nat.le_refl _) _
  have O := Sd.mk hown
  have B := Sd.mk hb1
  have X1 := Sd.mk (fun j u hj => cell_below (X.out j u hj) hb1)
  clear hown hb1
  go_enter Tryz.func160, Tryz.ntmps160
  go_wp2_with (at_builtin; refine wpList_append_own_at _ rfl (.tmp 5) (.tmp 6) 35 rfl w.heap.size 5 i (.int .u8 0) 1 1 Tryz.underlying35 hi hz hs hb rfl (by decide) _ 0 [] rfl O.out A n c xs rfl (by omega) X1.out h1 (by unfold maxLen; omega) (by omega) B.out.size ?_; intro v w2 ho hg hni hat; have O2 := Sd.mk ho; have B2 := Sd.mk (B.out.grown hg B.out.size (fun k hk => (O.out.lt k hk).1)); clear ho hg hni hat)
  go_ret
  have h := O2.out
  rw [Nat.zero_add, List.nil_append] at h
  exact ⟨_, rfl, h, B2.out⟩
set_option maxRecDepth 100000 in
theorem clone_ints (w : World) (A : Addr) (n c : Nat) (xs : List Value) (hx : xs.length = n) (hc : ∀ j u, xs[j]? = some u → w.cell? (A.add j) = some u) (h1 : ∀ u ∈ xs, u.oneCell' = true) (hn : n ≤ 1000000) :
    Calls Tryz.prog 127 #[.slice (some A) n c] w fun e w' => ∃ v, e = .returned v ∧ w'.ownsRow w.heap.size 3 1 v n xs ∧ Below w.heap.size w w' := by
  obtain ⟨i, hi, hz, hs, hb⟩ := info3
  have X := Sd.mk hc
  clear hc
  have qT : ∀ (w : World), (binOp .eql 22 (.slice (some A) n c) (.slice none 0 0)).run Tryz.prog w = .ok (.bool false) w := fun w => Lib.run_eql_slice_nil w _ _ _ _ _ _ _ Tryz.underlying22
  have hown : (w.alloc (.cells #[] 3)).ownsRow w.heap.size 3 1 (.slice (some ⟨w.heap.size, 0, none⟩) 0 0) 0 [] := ⟨rfl, .inr ⟨w.heap.size, 0, _, rfl, Nat.le_refl _, blk_new _ _, Nat.le_refl _, Nat.zero_le _, rfl, rfl⟩⟩
  have hb1 : Below w.heap.size w (w.alloc (.cells #[] 3)) := (Below.refl _ _).alloc (Nat.le_refl _) _
  have O := Sd.mk hown
  have B := Sd.mk hb1
  have X1 := Sd.mk (fun j u hj => cell_below (X.out j u hj) hb1)
  clear hown hb1
  go_enter Tryz.func127, Tryz.ntmps127
  go_wp2_with (at_builtin; refine wpList_append_own_at _ rfl (.tmp 5) (.tmp 6) 22 rfl w.heap.size 3 i (.int .i64 0) 1 8 Tryz.underlying22 hi hz hs hb rfl (by decide) _ 0 [] rfl O.out A n c xs rfl (by omega) X1.out h1 (by unfold maxLen; omega) (by omega) B.out.size ?_; intro v w2 ho hg hni hat; have O2 := Sd.mk ho; have B2 := Sd.mk (B.out.grown hg B.out.size (fun k hk => (O.out.lt k hk).1)); clear ho hg hni hat)
  go_ret
  have h := O2.out
  rw [Nat.zero_add, List.nil_append] at h
  exact ⟨_, rfl, h, B2.out⟩
set_option maxRecDepth 100000 in
theorem clone_rows (w : World) (A : Addr) (n c : Nat) (xs : List Value) (hx : xs.length = n) (hc : ∀ j u, xs[j]? = some u → w.cell? (A.add j) = some u) (h1 : ∀ u ∈ xs, u.oneCell' = true) (hn : n ≤ 1000000) :
    Calls Tryz.prog 188 #[.slice (some A) n c] w fun e w' => ∃ v, e = .returned v ∧ w'.ownsRow w.heap.size 35 1 v n xs ∧ Below w.heap.size w w' := by
  obtain ⟨i, hi, hz, hs, hb⟩ := info35
  have X := Sd.mk hc
  clear hc
  have qT : ∀ (w : World), (binOp .eql 82 (.slice (some A) n c) (.slice none 0 0)).run Tryz.prog w = .ok (.bool false) w := fun w => Lib.run_eql_slice_nil w _ _ _ _ _ _ _ Tryz.underlying82
  have hown : (w.alloc (.cells #[] 35)).ownsRow w.heap.size 35 1 (.slice (some ⟨w.heap.size, 0, none⟩) 0 0) 0 [] := ⟨rfl, .inr ⟨w.heap.size, 0, _, rfl, Nat.le_refl _, blk_new _ _, Nat.le_refl _, Nat.zero_le _, rfl, rfl⟩⟩
  have hb1 : Below w.heap.size w (w.alloc (.cells #[] 35)) := (Below.refl _ _).alloc (Nat.le_refl _) _
  have O := Sd.mk hown
  have B := Sd.mk hb1
  have X1 := Sd.mk (fun j u hj => cell_below (X.out j u hj) hb1)
  clear hown hb1
  go_enter Tryz.func188, Tryz.ntmps188
  go_wp2_with (at_builtin; refine wpList_append_own_at _ rfl (.tmp 5) (.tmp 6) 82 rfl w.heap.size 35 i (.slice none 0 0) 1 24 Tryz.underlying82 hi hz hs hb rfl (by decide) _ 0 [] rfl O.out A n c xs rfl (by omega) X1.out h1 (by unfold maxLen; omega) (by omega) B.out.size ?_; intro v w2 ho hg hni hat; have O2 := Sd.mk ho; have B2 := Sd.mk (B.out.grown hg B.out.size (fun k hk => (O.out.lt k hk).1)); clear ho hg hni hat)
  go_ret
  have h := O2.out
  rw [Nat.zero_add, List.nil_append] at h
  exact ⟨_, rfl, h, B2.out⟩
theorem own_less {W : World} {b base n : Nat} {e : TypeId} {size : Nat} {v : Value} {xs : List Value} (h : W.ownsRow b e size v n xs) (hle : base ≤ b) : W.ownsRow base e size v n xs := by
  obtain ⟨h1, h2⟩ := h
  exact ⟨h1, h2.imp id fun ⟨g, cap, cur, he, hb, hr⟩ => ⟨g, cap, cur, he, Nat.le_trans hle hb, hr⟩⟩
theorem own_move {W W' : World} {B sz n : Nat} {e : TypeId} {v : Value} {xs : List Value} (h : W.ownsRow B e sz v n xs) (hm : ∀ k o, v.ownBlock = some k → W.heap[k]? = some o → W'.heap[k]? = some o) : W'.ownsRow B e sz v n xs := by
  refine ⟨h.1, ?_⟩
  rcases h.2 with h1 | ⟨g, cap, cur, rfl, hb, hg, h2⟩
  · exact Or.inl h1
  · exact Or.inr ⟨g, cap, cur, rfl, hb, hm g _ rfl hg, h2⟩
theorem own_below {W W' : World} {B sz n : Nat} {e : TypeId} {v : Value} {xs : List Value} (h : W.ownsRow B e sz v n xs) (hb : Below W.heap.size W W') : W'.ownsRow B e sz v n xs := own_move h (fun k o _ h2 => blk_below h2 hb (blk_lt h2))
theorem own_typed {W : World} {B sz n : Nat} {e : TypeId} {v : Value} {xs : List Value} (h : W.ownsRow B e sz v n xs) : ∀ k, v.ownBlock = some k → ∃ cs, W.heap[k]? = some (.cells cs e (0, 0)) := by
  intro k hk
  rcases h.2 with ⟨rfl, _⟩ | ⟨g, cap, cur, rfl, _, hg, _⟩
  · exact absurd hk (by simp [Value.ownBlock])
  · have : g = k := by simpa [Value.ownBlock] using hk
    subst this; exact ⟨_, hg⟩
/-- A block that is of another type than the row's elements stays when the row grows. -/
theorem blk_grown {W W' : World} {B sz n : Nat} {e t : TypeId} {v : Value} {xs : List Value} {g : Nat} {cs : Array Value} (h : W.heap[g]? = some (.cells cs t (0, 0))) (ho : W.ownsRow B e sz v n xs) (hg : W.grownBy W' v.ownBlock) (hne : t ≠ e) : W'.heap[g]? = some (.cells cs t (0, 0)) := by
  refine (hg.block g (blk_lt h) ?_).trans h
  intro q
  obtain ⟨cs', h2⟩ := own_typed ho g q.symm
  rw [h] at h2
  injection h2 with h2
  injection h2 with _ h3
  exact hne h3
/-- A token of one byte, in memory of its own. -/
def Tk (W : World) (v : Value) (ch : Int) : Prop := ∃ g c cs, v = .slice (some ⟨g, 0, none⟩) 1 c ∧ 1 ≤ c ∧ W.heap[g]? = some (.cells cs 5 (0, 0)) ∧ cs[0]? = some (.int .u8 ch)
theorem Tk.below {W W' : World} {v : Value} {ch : Int} (h : Tk W v ch) (hb : Below W.heap.size W W') : Tk W' v ch := by
  obtain ⟨g, c, cs, h1, h2, h3, h4⟩ := h
  exact ⟨g, c, cs, h1, h2, blk_below h3 hb (blk_lt h3), h4⟩
theorem Tk.grown {W W' : World} {v : Value} {ch : Int} (h : Tk W v ch) {B sz n : Nat} {e : TypeId} {l : Value} {xs : List Value} (ho : W.ownsRow B e sz l n xs) (hg : W.grownBy W' l.ownBlock) (he : 5 ≠ e) : Tk W' v ch := by
  obtain ⟨g, c, cs, h1, h2, h3, h4⟩ := h
  exact ⟨g, c, cs, h1, h2, blk_grown h3 ho hg he, h4⟩
theorem Tk.one {W : World} {v : Value} {ch : Int} (h : Tk W v ch) : v.oneCell' = true := by
  obtain ⟨g, c, cs, rfl, _⟩ := h
  rfl
theorem Tk.form {W : World} {v : Value} {ch : Int} (h : Tk W v ch) : ∃ g c, v = .slice (some ⟨g, 0, none⟩) 1 c := by
  obtain ⟨g, c, cs, h1, _⟩ := h
  exact ⟨g, c, h1⟩
theorem Tk.of {W : World} {B : Nat} {v : Value} {ch : Int} (h : W.ownsRow B 5 1 v 1 [.int .u8 ch]) : Tk W v ch := by
  rcases h.2 with ⟨_, h0⟩ | ⟨g, cap, cur, rfl, _, hg, hn, _, _, ht⟩
  · omega
  · refine ⟨g, cap, cur, rfl, hn, hg, ?_⟩
    have h2 : (cur.toList.take (1 * 1))[0]? = some (Value.int .u8 ch) := by rw [ht]; rfl
    rw [List.getElem?_take] at h2
    simpa using h2
theorem Tk.cell {W : World} {g c : Nat} {ch : Int} (h : Tk W (.slice (some ⟨g, 0, none⟩) 1 c) ch) : W.cell? ⟨g, 0, none⟩ = some (.int .u8 ch) := by
  obtain ⟨g', c', cs, h1, h2, h3, h4⟩ := h
  injection h1 with h1 _ _
  injection h1 with h1
  injection h1 with h1
  subst h1
  exact (blk_cell h3 0).trans h4
set_option maxRecDepth 100000 in
/-- tok.Count, byte by byte. -/
theorem count_bytes (w : World) (A : Option Addr) (n c : Nat) : Calls Tryz.prog 107 #[.int .i64 0, .slice A n c] w fun e w' => e = .returned (.tuple #[.int .i64 (n : Int), .int .i64 0]) ∧ w' = w := by
  go_enter Tryz.func107, Tryz.ntmps107
  go_wp2
  go_ret2
  exact ⟨rfl, rfl⟩
theorem one_at {w : World} {g : Nat} {x : Value} (h : w.cell? ⟨g, 0, none⟩ = some x) : ∀ j u, [x][j]? = some u → w.cell? ((⟨g, 0, none⟩ : Addr).add j) = some u := by
  intro j u hj
  match j, hj with
  | 0, hj => simp at hj; subst hj; exact h
  | j + 1, hj => simp at hj
theorem one_new {w : World} {x : Value} {t : TypeId} : ∀ j u, [x][j]? = some u → (w.alloc (.cells #[x] t)).cell? ((⟨w.heap.size, 0, none⟩ : Addr).add j) = some u := cell_one_new w x t
set_option maxRecDepth 100000 in
set_option maxHeartbeats 2000000 in
/-- tok.Cut of one byte. -/
theorem cut_one (w : World) (g : Nat) (x : Int) (hx : w.cell? ⟨g, 0, none⟩ = some (.int .u8 x)) :
    Calls Tryz.prog 140 #[.int .i64 0, .slice (some ⟨g, 0, none⟩) 1 1] w fun e w' => ∃ v t, e = .returned (.tuple #[v, .int .i64 0]) ∧ w'.ownsRow w.heap.size 35 1 v 1 [t] ∧ Tk w' t x ∧ Below w.heap.size w w' := by
  obtain ⟨i, hi, hz, hs, hb⟩ := info35
  have HC := Sd.mk (clone_bytes w ⟨g, 0, none⟩ 1 1 [.int .u8 x] rfl (one_at hx) (by simp [Value.oneCell']) (by omega))
  go_enter Tryz.func140, Tryz.ntmps140
  go_wp2
  refine wp_loop_rounds 2 ?_
  rw [rounds_succ]
  go_wp2_with fail
  refine HC.out.mono ?_
  rintro e w1 ⟨t, rfl, ho, hb1⟩
  have T := Sd.mk (Tk.of ho)
  obtain ⟨g1, k1, rfl⟩ := T.out.form
  have B1 := Sd.mk hb1
  have O1 := Sd.mk (World.ownsRow_nil (w1.alloc (.cells #[.slice (some ⟨g1, 0, none⟩) 1 k1] 35)) w.heap.size 35 1)
  have B2 := Sd.mk ((hb1.alloc hb1.size (.cells #[.slice (some ⟨g1, 0, none⟩) 1 k1] 35)))
  have T2 := Sd.mk (T.out.below (W' := w1.alloc (.cells #[.slice (some ⟨g1, 0, none⟩) 1 k1] 35)) ((Below.refl _ _).alloc (Nat.le_refl _) _))
  clear ho hb1 HC
  go_wp2_with (at_builtin; refine wpList_append_own_at _ rfl (.tmp 23) (.tmp 28) 82 rfl w.heap.size 35 i _ 1 24 Tryz.underlying82 hi hz hs hb rfl (by decide) _ 0 [] rfl O1.out ⟨w1.heap.size, 0, none⟩ 1 1 [.slice (some ⟨g1, 0, none⟩) 1 k1] rfl rfl one_new (by simp [Value.oneCell']) (by unfold maxLen; omega) (by omega) B2.out.size ?_; intro v w2 ho hg hni hat; have O2 := Sd.mk ho; have B3 := Sd.mk (B2.out.grown hg B2.out.size (fun k hk => (O1.out.lt k hk).1)); have T3 := Sd.mk (T2.out.grown O1.out hg (by decide)); clear ho hg hni hat)
  rw [rounds_succ]
  go_wp2
  go_ret2
  exact ⟨_, _, rfl, O2.out, T3.out, B3.out⟩
set_option maxRecDepth 100000 in
set_option maxHeartbeats 4000000 in
/-- tok.Cut of two bytes. -/
theorem cut_two (w : World) (g : Nat) (x y : Int) (hx : w.cell? ⟨g, 0, none⟩ = some (.int .u8 x)) (hy : w.cell? ⟨g, 1, none⟩ = some (.int .u8 y)) :
    Calls Tryz.prog 140 #[.int .i64 0, .slice (some ⟨g, 0, none⟩) 2 2] w fun e w' => ∃ v t u, e = .returned (.tuple #[v, .int .i64 0]) ∧ w'.ownsRow w.heap.size 35 1 v 2 [t, u] ∧ Tk w' t x ∧ Tk w' u y ∧ Below w.heap.size w w' := by
  obtain ⟨i, hi, hz, hs, hb⟩ := info35
  have HC := Sd.mk (clone_bytes w ⟨g, 0, none⟩ 1 2 [.int .u8 x] rfl (one_at hx) (by simp [Value.oneCell']) (by omega))
  go_enter Tryz.func140, Tryz.ntmps140
  go_wp2
  refine wp_loop_rounds 3 ?_
  rw [rounds_succ]
  go_wp2_with fail
  refine HC.out.mono ?_
  rintro e w1 ⟨t, rfl, ho, hb1⟩
  have T := Sd.mk (Tk.of ho)
  obtain ⟨g1, k1, rfl⟩ := T.out.form
  have B1 := Sd.mk hb1
  have O1 := Sd.mk (World.ownsRow_nil (w1.alloc (.cells #[.slice (some ⟨g1, 0, none⟩) 1 k1] 35)) w.heap.size 35 1)
  have B2 := Sd.mk ((hb1.alloc hb1.size (.cells #[.slice (some ⟨g1, 0, none⟩) 1 k1] 35)))
  have T2 := Sd.mk (T.out.below (W' := w1.alloc (.cells #[.slice (some ⟨g1, 0, none⟩) 1 k1] 35)) ((Below.refl _ _).alloc (Nat.le_refl _) _))
  clear ho hb1 HC
  go_wp2_with (at_builtin; refine wpList_append_own_at _ rfl (.tmp 23) (.tmp 28) 82 rfl w.heap.size 35 i _ 1 24 Tryz.underlying82 hi hz hs hb rfl (by decide) _ 0 [] rfl O1.out ⟨w1.heap.size, 0, none⟩ 1 1 [.slice (some ⟨g1, 0, none⟩) 1 k1] rfl rfl one_new (by simp [Value.oneCell']) (by unfold maxLen; omega) (by omega) B2.out.size ?_; intro v w2 ho hg hni hat; have O2 := Sd.mk ho; have B3 := Sd.mk (B2.out.grown hg B2.out.size (fun k hk => (O1.out.lt k hk).1)); have T3 := Sd.mk (T2.out.grown O1.out hg (by decide)); clear ho hg hni hat)
  rw [rounds_succ]
  have HC := Sd.mk (clone_bytes w2 ⟨g, 1, none⟩ 1 1 [.int .u8 y] rfl (fun j u hj => by
    match j, hj with
    | 0, hj => simp at hj; subst hj; exact cell_below hy B3.out
    | j + 1, hj => simp at hj) (by simp [Value.oneCell']) (by omega))
  clear T2 B2 O1 B1 T
  go_wp2_with fail
  refine HC.out.mono ?_
  rintro e w3 ⟨u, rfl, ho, hb1⟩
  have U := Sd.mk (Tk.of ho)
  obtain ⟨g2, k2, rfl⟩ := U.out.form
  have hba : Below w3.heap.size w3 (w3.alloc (.cells #[.slice (some ⟨g2, 0, none⟩) 1 k2] 35)) := (Below.refl _ _).alloc (Nat.le_refl _) _
  have B4 := Sd.mk (B3.out.trans (hb1.mono B3.out.size))
  have O3 := Sd.mk (own_below (own_below O2.out hb1) hba)
  have B5 := Sd.mk (B4.out.alloc B4.out.size (.cells #[.slice (some ⟨g2, 0, none⟩) 1 k2] 35))
  have T4 := Sd.mk ((T3.out.below hb1).below hba)
  have U4 := Sd.mk (U.out.below hba)
  clear ho hb1 HC hba
  go_wp2_with (at_builtin; refine wpList_append_own_at _ rfl (.tmp 23) (.tmp 28) 82 rfl w.heap.size 35 i _ 1 24 Tryz.underlying82 hi hz hs hb rfl (by decide) v (0 + 1) ([] ++ [.slice (some ⟨g1, 0, none⟩) 1 k1]) rfl O3.out ⟨w3.heap.size, 0, none⟩ 1 1 [.slice (some ⟨g2, 0, none⟩) 1 k2] rfl rfl one_new (by simp [Value.oneCell']) (by unfold maxLen; omega) (by omega) B5.out.size ?_; intro v' w4 ho hg hni hat; have O6 := Sd.mk ho; have B6 := Sd.mk (B5.out.grown hg B5.out.size (fun k hk => (O3.out.lt k hk).1)); have T6 := Sd.mk (T4.out.grown O3.out hg (by decide)); have U6 := Sd.mk (U4.out.grown O3.out hg (by decide)); clear ho hg hni hat)
  rw [rounds_succ]
  go_wp2
  go_ret2
  exact ⟨_, _, _, rfl, O6.out, T6.out, U6.out, B6.out⟩
theorem run_compareSlices {P : Program} (w : World) (a b : Addr) (n m c d : Nat) (xs ys : List Int) (hx : xs.length = n) (hy : ys.length = m) (hcx : ∀ j x, xs[j]? = some x → w.cell? (a.add j) = some (.int .u8 x)) (hcy : ∀ j x, ys[j]? = some x → w.cell? (b.add j) = some (.int .u8 x)) :
    (Extern.BytealgCompare.compare #[.slice (some a) n c, .slice (some b) m d]).run P w = .ok (.int .i64 (Lib.compareBytes (Lib.bytesOf xs) (Lib.bytesOf ys))) w := by
  have h1 := Lib.run_loadBytesX (P := P) w xs a .empty hcx
  have h2 := Lib.run_loadBytesX (P := P) w ys b .empty hcy
  rw [hx] at h1
  rw [hy] at h2
  have he : ∀ zs : List Int, (⟨ByteArray.empty.data ++ (Lib.bytesOf zs).toArray⟩ : ByteArray) = ⟨(Lib.bytesOf zs).toArray⟩ := fun zs => by
    apply ByteArray.ext
    show (#[] : Array UInt8) ++ (Lib.bytesOf zs).toArray = (Lib.bytesOf zs).toArray
    simp
  rw [he] at h1 h2
  change Sem.run P (do pure (goInt (Extern.BytealgCompare.cmp (← Extern.Bytes.bytesOf (.slice (some a) n c)) (← Extern.Bytes.bytesOf (.slice (some b) m d))))) w = _
  simp only [Extern.Bytes.bytesOf, Sem.run_bind, Sem.run_pure, h1, h2, Result.andThen]
  rw [Lib.cmp_eq]
  simp [goInt]
set_option maxRecDepth 100000 in
/-- bytes.Compare of two tokens. -/
theorem cmp_bytes (w : World) (a b : Addr) (n m c d : Nat) (xs ys : List Int) (hx : xs.length = n) (hy : ys.length = m) (hcx : ∀ j x, xs[j]? = some x → w.cell? (a.add j) = some (.int .u8 x)) (hcy : ∀ j x, ys[j]? = some x → w.cell? (b.add j) = some (.int .u8 x)) :
    Calls Tryz.prog 190 #[.slice (some a) n c, .slice (some b) m d] w fun e w' => e = .returned (.int .i64 (Lib.compareBytes (Lib.bytesOf xs) (Lib.bytesOf ys))) ∧ w' = w := by
  have hC : (callFunc 217 #[.slice (some a) n c, .slice (some b) m d]).run Tryz.prog w = .ok (.value (.int .i64 (Lib.compareBytes (Lib.bytesOf xs) (Lib.bytesOf ys)))) w := by
    rw [run_callFunc_extern Tryz.func217 (by kernel_rfl) (by kernel_rfl) (by kernel_rfl) (e := Extern.BytealgCompare.compare) (by kernel_rfl), run_compareSlices w a b n m c d xs ys hx hy hcx hcy]
    rfl
  clear hcx hcy
  generalize Lib.compareBytes (Lib.bytesOf xs) (Lib.bytesOf ys) = r at hC ⊢
  go_enter Tryz.func190, Tryz.ntmps190
  go_wp2
  go_ret
  exact ⟨rfl, rfl⟩
theorem one_num {w : World} {g : Nat} {x : Int} (h : w.cell? ⟨g, 0, none⟩ = some (.int .u8 x)) : ∀ j y, [x][j]? = some y → w.cell? ((⟨g, 0, none⟩ : Addr).add j) = some (.int .u8 y) := by
  intro j y hj
  match j, hj with
  | 0, hj => simp at hj; subst hj; exact h
  | j + 1, hj => simp at hj
set_option maxRecDepth 100000 in
/-- bytes.Equal of two tokens. -/
theorem eq_tok (w : World) (g1 g2 c1 c2 : Nat) (x y : Int) (hx : w.cell? ⟨g1, 0, none⟩ = some (.int .u8 x)) (hy : w.cell? ⟨g2, 0, none⟩ = some (.int .u8 y)) :
    Calls Tryz.prog 192 #[.slice (some ⟨g1, 0, none⟩) 1 c1, .slice (some ⟨g2, 0, none⟩) 1 c2] w fun e w' => e = .returned (.bool ((strOfNums [x]).toList == (strOfNums [y]).toList)) ∧ w' = w := by
  have k1 := run_convert_bytes_arg (P := Tryz.prog) w 35 5 Tryz.underlying35 Tryz.underlying5 g1 0 1 c1 [x] rfl (fun i hi => by
    have e : i = 0 := by omega
    subst e
    exact hx) 9 Tryz.underlying9
  have k2 := run_convert_bytes_arg (P := Tryz.prog) w 35 5 Tryz.underlying35 Tryz.underlying5 g2 0 1 c2 [y] rfl (fun i hi => by
    have e : i = 0 := by omega
    subst e
    exact hy) 9 Tryz.underlying9
  generalize strOfNums [x] = sx at k1 ⊢
  generalize strOfNums [y] = sy at k2 ⊢
  go_enter Tryz.func192, Tryz.ntmps192
  go_wp2
  go_ret
  exact ⟨rfl, rfl⟩
set_option maxRecDepth 100000 in
set_option maxHeartbeats 4000000 in
/-- An insertion sort of three tokens that rise already. -/
theorem isort3 (w : World) (g c g0 g1 g2 c0 c1 c2 : Nat) (x0 x1 x2 r1 r2 : Int) (h0 : w.cell? ⟨g, 0, none⟩ = some (.slice (some ⟨g0, 0, none⟩) 1 c0)) (h1 : w.cell? ⟨g, 1, none⟩ = some (.slice (some ⟨g1, 0, none⟩) 1 c1)) (h2 : w.cell? ⟨g, 2, none⟩ = some (.slice (some ⟨g2, 0, none⟩) 1 c2))
    (k0 : w.cell? ⟨g0, 0, none⟩ = some (.int .u8 x0)) (k1 : w.cell? ⟨g1, 0, none⟩ = some (.int .u8 x1)) (k2 : w.cell? ⟨g2, 0, none⟩ = some (.int .u8 x2))
    (e1 : Lib.compareBytes (Lib.bytesOf [x1]) (Lib.bytesOf [x0]) = r1) (e2 : Lib.compareBytes (Lib.bytesOf [x2]) (Lib.bytesOf [x1]) = r2) (p1 : 0 ≤ r1) (p2 : 0 ≤ r2) :
    Calls Tryz.prog 230 #[.slice (some ⟨g, 0, none⟩) 3 c, .int .i64 0, .int .i64 3, .func (.func 190) #[] #[]] w fun e w' => e = .returned (.tuple #[]) ∧ ∃ n, w' = w.drewN n := by
  have C1 := Sd.mk (fun (W : World) m (q0 : W.cell? ⟨g0, 0, none⟩ = some (.int .u8 x0)) (q1 : W.cell? ⟨g1, 0, none⟩ = some (.int .u8 x1)) => cmp_bytes (W.drewN m) ⟨g1, 0, none⟩ ⟨g0, 0, none⟩ 1 1 c1 c0 [x1] [x0] rfl rfl (one_num q1) (one_num q0))
  have C2 := Sd.mk (fun (W : World) m (q1 : W.cell? ⟨g1, 0, none⟩ = some (.int .u8 x1)) (q2 : W.cell? ⟨g2, 0, none⟩ = some (.int .u8 x2)) => cmp_bytes (W.drewN m) ⟨g2, 0, none⟩ ⟨g1, 0, none⟩ 1 1 c2 c1 [x2] [x1] rfl rfl (one_num q2) (one_num q1))
  rw [e1] at C1
  rw [e2] at C2
  have P1 : ¬ r1 < 0 := by omega
  have P2 : ¬ r2 < 0 := by omega
  clear p1 p2 e1 e2
  go_enter Tryz.func230, Tryz.ntmps230
  go_wp2
  refine wp_loop_rounds 3 ?_
  rw [rounds_succ]
  go_wp2
  refine wp_loop_rounds 2 ?_
  rw [rounds_succ]
  go_wp2_with fail
  go_quiet (first | (go_at_call 190; refine Calls.quiet_of_same (C1.out _ _ k0 k1)))
  go_wp2
  rw [rounds_succ]
  have h1' : (w.drewN nq).cell? ⟨g, 1, none⟩ = some (.slice (some ⟨g1, 0, none⟩) 1 c1) := h1
  have h2' : (w.drewN nq).cell? ⟨g, 2, none⟩ = some (.slice (some ⟨g2, 0, none⟩) 1 c2) := h2
  have k1' : (w.drewN nq).cell? ⟨g1, 0, none⟩ = some (.int .u8 x1) := k1
  have k2' : (w.drewN nq).cell? ⟨g2, 0, none⟩ = some (.int .u8 x2) := k2
  obtain ⟨w1, hw1⟩ : ∃ w1, w1 = w.drewN nq := ⟨_, rfl⟩
  rw [← hw1] at h1' h2' k1' k2' ⊢
  have HW := Sd.mk hw1
  clear hw1 h0 h1 h2 k0 k1 k2
  go_wp2
  refine wp_loop_rounds 2 ?_
  rw [rounds_succ]
  go_wp2_with fail
  go_quiet (first | (go_at_call 190; refine Calls.quiet_of_same (C2.out _ _ k1' k2')))
  go_wp2
  rw [rounds_succ]
  go_wp2
  go_end0
  refine ⟨rfl, ?_⟩
  rw [HW.out]
  exact ⟨_, World.drewN_drewN _ _ _⟩
set_option maxRecDepth 100000 in
set_option maxHeartbeats 4000000 in
theorem pdq3 (w : World) (g c g0 g1 g2 c0 c1 c2 : Nat) (x0 x1 x2 r1 r2 : Int) (h0 : w.cell? ⟨g, 0, none⟩ = some (.slice (some ⟨g0, 0, none⟩) 1 c0)) (h1 : w.cell? ⟨g, 1, none⟩ = some (.slice (some ⟨g1, 0, none⟩) 1 c1)) (h2 : w.cell? ⟨g, 2, none⟩ = some (.slice (some ⟨g2, 0, none⟩) 1 c2))
    (k0 : w.cell? ⟨g0, 0, none⟩ = some (.int .u8 x0)) (k1 : w.cell? ⟨g1, 0, none⟩ = some (.int .u8 x1)) (k2 : w.cell? ⟨g2, 0, none⟩ = some (.int .u8 x2))
    (e1 : Lib.compareBytes (Lib.bytesOf [x1]) (Lib.bytesOf [x0]) = r1) (e2 : Lib.compareBytes (Lib.bytesOf [x2]) (Lib.bytesOf [x1]) = r2) (p1 : 0 ≤ r1) (p2 : 0 ≤ r2) 
    (lim : Int) : Calls Tryz.prog 216 #[.slice (some ⟨g, 0, none⟩) 3 c, .int .i64 0, .int .i64 3, .int .i64 lim, .func (.func 190) #[] #[]] w fun e w' => e = .returned (.tuple #[]) ∧ ∃ n, w' = w.drewN n := by
  have I := Sd.mk (isort3 w g c g0 g1 g2 c0 c1 c2 x0 x1 x2 r1 r2 h0 h1 h2 k0 k1 k2 e1 e2 p1 p2)
  clear h0 h1 h2 k0 k1 k2 e1 e2
  go_enter Tryz.func216, Tryz.ntmps216
  go_wp2
  refine wp_loop_rounds 1 ?_
  rw [rounds_succ]
  go_wp2_with fail
  refine I.out.mono ?_
  rintro e w1 ⟨rfl, n, rfl⟩
  go_wp2
  refine bodyPost_ret (results_none rfl _ _ _) rfl ?_
  exact ⟨rfl, n, rfl⟩
set_option maxRecDepth 100000 in
set_option maxHeartbeats 4000000 in
/-- slices.SortFunc of three tokens that rise already. -/
theorem sort3 (w : World) (g c g0 g1 g2 c0 c1 c2 : Nat) (x0 x1 x2 r1 r2 : Int) (h0 : w.cell? ⟨g, 0, none⟩ = some (.slice (some ⟨g0, 0, none⟩) 1 c0)) (h1 : w.cell? ⟨g, 1, none⟩ = some (.slice (some ⟨g1, 0, none⟩) 1 c1)) (h2 : w.cell? ⟨g, 2, none⟩ = some (.slice (some ⟨g2, 0, none⟩) 1 c2))
    (k0 : w.cell? ⟨g0, 0, none⟩ = some (.int .u8 x0)) (k1 : w.cell? ⟨g1, 0, none⟩ = some (.int .u8 x1)) (k2 : w.cell? ⟨g2, 0, none⟩ = some (.int .u8 x2))
    (e1 : Lib.compareBytes (Lib.bytesOf [x1]) (Lib.bytesOf [x0]) = r1) (e2 : Lib.compareBytes (Lib.bytesOf [x2]) (Lib.bytesOf [x1]) = r2) (p1 : 0 ≤ r1) (p2 : 0 ≤ r2) :
    Calls Tryz.prog 189 #[.slice (some ⟨g, 0, none⟩) 3 c, .func (.func 190) #[] #[]] w fun e w' => e = .returned (.tuple #[]) ∧ ∃ n, w' = w.drewN n := by
  have I := Sd.mk (fun lim => pdq3 w g c g0 g1 g2 c0 c1 c2 x0 x1 x2 r1 r2 h0 h1 h2 k0 k1 k2 e1 e2 p1 p2 lim)
  clear h0 h1 h2 k0 k1 k2 e1 e2
  go_enter Tryz.func189, Tryz.ntmps189
  go_wp2_with (first | (go_at_call 216; refine (I.out _).mono ?_; rintro e w1 ⟨rfl, n, rfl⟩) | go_in)
  go_end0
  exact ⟨rfl, n, rfl⟩
set_option maxRecDepth 100000 in
set_option maxHeartbeats 8000000 in
/-- slices.CompactFunc of three tokens of which the last two are alike. -/
theorem compact3 (w : World) (g c g0 g1 g2 c0 c1 c2 : Nat) (x0 x1 : Int) (cs : Array Value) (hg : w.heap[g]? = some (.cells cs 35 (0, 0))) (hcs : cs.size = c) (h3 : 3 ≤ c)
    (h0 : cs[0]? = some (.slice (some ⟨g0, 0, none⟩) 1 c0)) (h1 : cs[1]? = some (.slice (some ⟨g1, 0, none⟩) 1 c1)) (h2 : cs[2]? = some (.slice (some ⟨g2, 0, none⟩) 1 c2))
    (k0 : w.cell? ⟨g0, 0, none⟩ = some (.int .u8 x0)) (k1 : w.cell? ⟨g1, 0, none⟩ = some (.int .u8 x1)) (k2 : w.cell? ⟨g2, 0, none⟩ = some (.int .u8 x1))
    (e1 : ((strOfNums [x1]).toList == (strOfNums [x0]).toList) = false) :
    Calls Tryz.prog 191 #[.slice (some ⟨g, 0, none⟩) 3 c, .func (.func 192) #[] #[]] w fun e w' => e = .returned (.slice (some ⟨g, 0, none⟩) 2 c) ∧ ∃ n, w' = (w.setCell ⟨g, 2, none⟩ (.slice none 0 0)).drewN n := by
  have C1 := Sd.mk (fun m => eq_tok (w.drewN m) g1 g0 c1 c0 x1 x0 k1 k0)
  have C2 := Sd.mk (fun (W : World) m (q1 : W.cell? ⟨g1, 0, none⟩ = some (.int .u8 x1)) (q2 : W.cell? ⟨g2, 0, none⟩ = some (.int .u8 x1)) => eq_tok (W.drewN m) g2 g1 c2 c1 x1 x1 q2 q1)
  rw [e1] at C1
  have e2 : ((strOfNums [x1]).toList == (strOfNums [x1]).toList) = true := by simp
  rw [e2] at C2
  clear e1 e2
  have l0 : w.cell? ⟨g, 0, none⟩ = some (.slice (some ⟨g0, 0, none⟩) 1 c0) := (blk_cell hg 0).trans h0
  have l1 : w.cell? ⟨g, 1, none⟩ = some (.slice (some ⟨g1, 0, none⟩) 1 c1) := (blk_cell hg 1).trans h1
  have l2 : w.cell? ⟨g, 2, none⟩ = some (.slice (some ⟨g2, 0, none⟩) 1 c2) := (blk_cell hg 2).trans h2
  have H := Sd.mk hg
  clear h0 h1 h2 hg
  go_enter Tryz.func191, Tryz.ntmps191
  go_wp2
  refine wp_loop_rounds 3 ?_
  rw [rounds_succ]
  go_wp2_with fail
  go_quiet (first | (go_at_call 192; refine Calls.quiet_of_same (C1.out _)))
  go_wp2
  rw [rounds_succ]
  have l1' : (w.drewN nq).cell? ⟨g, 1, none⟩ = some (.slice (some ⟨g1, 0, none⟩) 1 c1) := l1
  have l2' : (w.drewN nq).cell? ⟨g, 2, none⟩ = some (.slice (some ⟨g2, 0, none⟩) 1 c2) := l2
  have k1' : (w.drewN nq).cell? ⟨g1, 0, none⟩ = some (.int .u8 x1) := k1
  have k2' : (w.drewN nq).cell? ⟨g2, 0, none⟩ = some (.int .u8 x1) := k2
  have H1 : Sd ((w.drewN nq).heap[g]? = some (.cells cs 35 (0, 0))) := ⟨H.out⟩
  obtain ⟨w1, hw1⟩ : ∃ w1, w1 = w.drewN nq := ⟨_, rfl⟩
  rw [← hw1] at l1' l2' k1' k2' H1 ⊢
  have HW : Sd (∃ n, w1 = w.drewN n) := ⟨_, hw1⟩
  have HCL := Sd.mk (fun m => Lib.run_clear_slice (P := Tryz.prog) (w1.drewN m) 82 35 0 (.slice none 0 0) Tryz.underlying82 (fun w => by kernel_rfl) rfl rfl g 2 1 (c - 2) (by decide) (fun j hj => by
    have e : j = 0 := by omega
    subst e
    have : (w1.drewN m).cell? ⟨g, 2 + 0, none⟩ = some (.slice (some ⟨g2, 0, none⟩) 1 c2) := l2'
    rw [this]; rfl) (fun j hj => blk_frozen H1.out _))
  clear hw1 l0 l1 l2 k0 k1 k2 H
  go_wp2_with fail
  go_quiet (first | (go_at_call 192; refine Calls.quiet_of_same (C2.out _ _ k1' k2')))
  go_wp2_with fail
  have hcl := HCL.out nq
  refine wp_loop_rounds 1 ?_
  rw [rounds_succ]
  go_wp2
  go_ret
  refine ⟨rfl, ?_⟩
  obtain ⟨n1, rfl⟩ := HW.out
  exact ⟨n1 + nq, by rw [World.drewN_drewN]; rfl⟩
theorem below_drewN' {B : Nat} {a w : World} (h : Below B a w) (n : Nat) : Below B a (w.drewN n) := ⟨h.os, h.tape, h.output, h.size, h.block⟩
theorem blk_set {w : World} {g : Nat} {t : TypeId} {cs : Array Value} (h : w.heap[g]? = some (.cells cs t (0, 0))) (i : Nat) (u : Value) : (w.setCell ⟨g, i, none⟩ u).heap[g]? = some (.cells (cs.setIfInBounds i u) t (0, 0)) := by
  simp [World.setCell, Array.getElem?_modify, h]
theorem blk_far {w : World} {g : Nat} {t : TypeId} {cs : Array Value} (h : w.heap[g]? = some (.cells cs t (0, 0))) {p : Addr} (hp : g ≠ p.block) (u : Value) : (w.setCell p u).heap[g]? = some (.cells cs t (0, 0)) := (Below.heap_setCell w p u g hp).trans h
theorem own_block {W : World} {B sz n : Nat} {e : TypeId} {v : Value} {xs : List Value} (h : W.ownsRow B e sz v n xs) (hn : 0 < n) : ∃ g cap cur, v = .slice (some ⟨g, 0, none⟩) n cap ∧ B ≤ g ∧ W.heap[g]? = some (.cells cur e (0, 0)) ∧ n ≤ cap ∧ cur.size = cap * sz ∧ cur.toList.take (n * sz) = xs := by
  rcases h.2 with ⟨_, h0⟩ | ⟨g, cap, cur, h1, h2, h3, h4, _, h5, h6⟩
  · omega
  · exact ⟨g, cap, cur, h1, h2, h3, h4, h5, h6⟩
theorem take_at {cur : Array Value} {k : Nat} {xs : List Value} (h : cur.toList.take k = xs) (i : Nat) (hi : i < k) : cur[i]? = xs[i]? := by
  rw [← h, List.getElem?_take, if_pos hi]; simp
theorem make_rows2 (w : World) : (Instr.makeSlice 82 (.int .i64 2) (.int .i64 2)).run Tryz.prog w = .ok (.slice (some ⟨w.heap.size, 0, none⟩) 2 2) (w.alloc (.cells #[.slice none 0 0, .slice none 0 0] 35)) := by
  obtain ⟨i, hi, hz, hs, hb⟩ := info35
  have := run_makeSlice (P := Tryz.prog) w 82 35 i (.slice none 0 0) Tryz.underlying82 hi hz .i64 .i64 2 2 (by omega) (by omega) (by rw [hs]; decide) (by rw [hb]; decide) (by omega)
  rw [hs] at this
  have e : madeCells (Value.slice none 0 0).cells (Int.toNat 2 * 1) = #[.slice none 0 0, .slice none 0 0] := by kernel_rfl
  rw [e] at this
  exact this
/-- Three tokens in a row of any memory, the last two alike. -/
structure Row3 (w : World) (A : Addr) (t0 t1 t2 : Value) (x0 x1 : Int) : Prop where mk ::
  cells : ∀ j u, [t0, t1, t2][j]? = some u → w.cell? (A.add j) = some u
  k0 : Tk w t0 x0
  k1 : Tk w t1 x1
  k2 : Tk w t2 x1
/-- A token stays when a row of slices is written. -/
theorem Tk.set {W : World} {v : Value} {ch : Int} (h : Tk W v ch) {D : Nat} {cs : Array Value} (hD : W.heap[D]? = some (.cells cs 35 (0, 0))) (u : Value) (i : Nat) : Tk (W.setCell ⟨D, i, none⟩ u) v ch := by
  obtain ⟨g, c, cs', h1, h2, h3, h4⟩ := h
  refine ⟨g, c, cs', h1, h2, blk_far h3 ?_ u, h4⟩
  rintro rfl
  rw [h3] at hD
  injection hD with hD
  injection hD with _ h5
  exact absurd h5 (by decide)
set_option maxRecDepth 100000 in
set_option maxHeartbeats 8000000 in
/-- names.Sort of three tokens of which the last two are alike. -/
theorem names_sort3 (w : World) (A : Addr) (c : Nat) (t0 t1 t2 : Value) (x0 x1 : Int) (h : Row3 w A t0 t1 t2 x0 x1)
    (e1 : Lib.compareBytes (Lib.bytesOf [x1]) (Lib.bytesOf [x0]) = 1) (e2 : Lib.compareBytes (Lib.bytesOf [x1]) (Lib.bytesOf [x1]) = 0) (e3 : ((strOfNums [x1]).toList == (strOfNums [x0]).toList) = false) :
    Calls Tryz.prog 157 #[.slice (some A) 3 c] w fun e w' => ∃ v d0 d1, e = .returned v ∧ w'.ownsRow w.heap.size 35 1 v 2 [d0, d1] ∧ Tk w' d0 x0 ∧ Tk w' d1 x1 ∧ Below w.heap.size w w' := by
  obtain ⟨g0, c0, rfl⟩ := h.k0.form
  obtain ⟨g1, c1, rfl⟩ := h.k1.form
  obtain ⟨g2, c2, rfl⟩ := h.k2.form
  have H := Sd.mk h
  have HC := Sd.mk (clone_rows w A 3 c [.slice (some ⟨g0, 0, none⟩) 1 c0, .slice (some ⟨g1, 0, none⟩) 1 c1, .slice (some ⟨g2, 0, none⟩) 1 c2] rfl h.cells (by simp [Value.oneCell']) (by omega))
  clear h
  go_enter Tryz.func157, Tryz.ntmps157
  go_wp2_with fail
  refine HC.out.mono ?_
  rintro e w1 ⟨v, rfl, ho, hb1⟩
  obtain ⟨g, cap, cur, rfl, hg, hcur, hcap, hsz, htk⟩ := own_block ho (by decide)
  have B1 := Sd.mk hb1
  have q0 := take_at htk 0 (by decide)
  have q1 := take_at htk 1 (by decide)
  have q2 := take_at htk 2 (by decide)
  have G := Sd.mk hg
  have CUR := Sd.mk hcur
  have CAP := Sd.mk hcap
  have SZ := Sd.mk (show cur.size = cap by omega)
  have Q0 := Sd.mk q0
  have Q1 := Sd.mk q1
  have Q2 := Sd.mk q2
  have K0 := Sd.mk (H.out.k0.below hb1)
  have K1 := Sd.mk (H.out.k1.below hb1)
  have K2 := Sd.mk (H.out.k2.below hb1)
  have E1 := Sd.mk e1
  have E2 := Sd.mk e2
  have E3 := Sd.mk e3
  clear ho hb1 HC q0 q1 q2 hg hcur hcap hsz htk e1 e2 e3
  go_wp2_with fail
  refine (sort3 w1 g cap g0 g1 g2 c0 c1 c2 x0 x1 x1 1 0 ((blk_cell CUR.out 0).trans Q0.out) ((blk_cell CUR.out 1).trans Q1.out) ((blk_cell CUR.out 2).trans Q2.out) K0.out.cell K1.out.cell K2.out.cell E1.out E2.out (by decide) (by decide)).mono ?_
  rintro e w2 ⟨rfl, n, rfl⟩
  go_wp2_with fail
  refine (compact3 (w1.drewN n) g cap g0 g1 g2 c0 c1 c2 x0 x1 cur CUR.out SZ.out CAP.out Q0.out Q1.out Q2.out K0.out.cell K1.out.cell K2.out.cell E3.out).mono ?_
  rintro e w2 ⟨rfl, m, hw2⟩
  have hb2 : Below w.heap.size w w2 := by rw [hw2]; exact below_drewN' ((below_drewN' B1.out n).setCell G.out _) m
  have B2 := Sd.mk hb2
  have l0 : w2.cell? ⟨g, 0, none⟩ = some (.slice (some ⟨g0, 0, none⟩) 1 c0) := by
    rw [hw2]
    refine (blk_cell (blk_set (w := w1.drewN n) CUR.out 2 (.slice none 0 0)) 0).trans ?_
    rw [Array.getElem?_setIfInBounds_ne (by decide)]; exact Q0.out
  have l1 : w2.cell? ⟨g, 1, none⟩ = some (.slice (some ⟨g1, 0, none⟩) 1 c1) := by
    rw [hw2]
    refine (blk_cell (blk_set (w := w1.drewN n) CUR.out 2 (.slice none 0 0)) 1).trans ?_
    rw [Array.getElem?_setIfInBounds_ne (by decide)]; exact Q1.out
  have K02 := Sd.mk (H.out.k0.below hb2)
  have K12 := Sd.mk (H.out.k1.below hb2)
  have L0 := Sd.mk l0
  have L1 := Sd.mk l1
  have GS := Sd.mk (blk_lt (show w2.heap[g]? = some _ by rw [hw2]; exact blk_set (w := w1.drewN n) CUR.out 2 (.slice none 0 0)))
  have hm := make_rows2 w2
  clear hw2 hb2 K0 K1 K2 Q0 Q1 Q2 CUR B1 H
  go_wp2_with fail
  have hD : (w2.alloc (.cells #[.slice none 0 0, .slice none 0 0] 35)).heap[w2.heap.size]? = some (.cells #[.slice none 0 0, .slice none 0 0] 35 (0, 0)) := blk_new _ _
  have ha : Below w2.heap.size w2 (w2.alloc (.cells #[.slice none 0 0, .slice none 0 0] 35)) := (Below.refl _ _).alloc (Nat.le_refl _) _
  have hlt : w2.heap.size < (w2.alloc (.cells #[.slice none 0 0, .slice none 0 0] 35)).heap.size := by simp
  have BD := Sd.mk B2.out.size
  have L03 := Sd.mk (cell_below L0.out ha)
  have L13 := Sd.mk (cell_below L1.out ha)
  have K03 := Sd.mk (K02.out.below ha)
  have K13 := Sd.mk (K12.out.below ha)
  have B3 := Sd.mk (B2.out.trans (ha.mono B2.out.size))
  have HD := Sd.mk hD
  have GL := Sd.mk (show g < w2.heap.size from GS.out)
  obtain ⟨w3, hw3⟩ : ∃ w3, w3 = w2.alloc (.cells #[.slice none 0 0, .slice none 0 0] 35) := ⟨_, rfl⟩
  rw [← hw3] at HD L03 L13 K03 K13 B3 hlt ⊢
  generalize hDn : w2.heap.size = D at HD BD GL hlt ⊢
  clear hDn hD ha hm K02 K12 L0 L1 B2 GS hw3
  refine wp_loop_rounds 3 ?_
  rw [rounds_succ]
  have l0 := L03.out
  go_wp2_with fail
  refine (clone_bytes w3 ⟨g0, 0, none⟩ 1 c0 [.int .u8 x0] rfl (one_at K03.out.cell) (by simp [Value.oneCell']) (by omega)).mono ?_
  rintro e w4 ⟨d0, rfl, ho, hb1⟩
  have D0 := Sd.mk (Tk.of ho)
  obtain ⟨g3, c3, rfl⟩ := D0.out.form
  have HD4 := Sd.mk (blk_below HD.out hb1 hlt)
  have G3 := Sd.mk (own_block ho (by decide))
  have hcell : w4.cell? ⟨D, 0, none⟩ = some (.slice none 0 0) := (blk_cell HD4.out 0).trans rfl
  have hfz : w4.frozen? ⟨D, 0, none⟩ = false := blk_frozen HD4.out 0
  have L14 := Sd.mk (cell_below L13.out hb1)
  have K14 := Sd.mk (K13.out.below hb1)
  have B4 := Sd.mk (B3.out.trans (hb1.mono B3.out.size))
  clear ho hb1 l0
  have HD5 := Sd.mk (blk_set HD4.out 0 (.slice (some ⟨g3, 0, none⟩) 1 c3))
  have F5 := Sd.mk (show Below D w4 (w4.setCell ⟨D, 0, none⟩ (.slice (some ⟨g3, 0, none⟩) 1 c3)) from (Below.refl D w4).setCell (p := ⟨D, 0, none⟩) (Nat.le_refl _) _)
  have B5 := Sd.mk (B4.out.setCell (p := ⟨D, 0, none⟩) BD.out (.slice (some ⟨g3, 0, none⟩) 1 c3))
  have ne4 : 5 ≠ 35 := by decide
  have D05 := Sd.mk (D0.out.set HD4.out (.slice (some ⟨g3, 0, none⟩) 1 c3) 0)
  have K15 := Sd.mk (K14.out.set HD4.out (.slice (some ⟨g3, 0, none⟩) 1 c3) 0)
  have L15 := Sd.mk ((F5.out.cell (p := ⟨g, 1, none⟩) GL.out).trans L14.out)
  have S5 := Sd.mk (blk_lt HD5.out)
  go_wp2_with fail
  obtain ⟨w5, hw5⟩ : ∃ w5, w5 = w4.setCell ⟨D, 0, none⟩ (.slice (some ⟨g3, 0, none⟩) 1 c3) := ⟨_, rfl⟩
  rw [← hw5] at HD5 B5 D05 K15 L15 S5 ⊢
  clear hw5 F5 HD4 B4 D0 K14 L14 hcell hfz G3 K03 K13 L03 L13 HD
  rw [rounds_succ]
  have l1 := L15.out
  go_wp2_with fail
  refine (clone_bytes w5 ⟨g1, 0, none⟩ 1 c1 [.int .u8 x1] rfl (one_at K15.out.cell) (by simp [Value.oneCell']) (by omega)).mono ?_
  rintro e w6 ⟨d1, rfl, ho, hb1⟩
  have D1 := Sd.mk (Tk.of ho)
  obtain ⟨g4, c4, rfl⟩ := D1.out.form
  have HD6 := Sd.mk (blk_below HD5.out hb1 S5.out)
  have hcell : w6.cell? ⟨D, 1, none⟩ = some (.slice none 0 0) := (blk_cell HD6.out 1).trans rfl
  have hfz : w6.frozen? ⟨D, 1, none⟩ = false := blk_frozen HD6.out 1
  have D06 := Sd.mk (D05.out.below hb1)
  have B6 := Sd.mk (B5.out.trans (hb1.mono B5.out.size))
  have HD7 := Sd.mk (blk_set HD6.out 1 (.slice (some ⟨g4, 0, none⟩) 1 c4))
  have B7 := Sd.mk (B6.out.setCell (p := ⟨D, 1, none⟩) BD.out (.slice (some ⟨g4, 0, none⟩) 1 c4))
  have D07 := Sd.mk (D06.out.set HD6.out (.slice (some ⟨g4, 0, none⟩) 1 c4) 1)
  have D17 := Sd.mk (D1.out.set HD6.out (.slice (some ⟨g4, 0, none⟩) 1 c4) 1)
  clear ho hb1 l1
  go_wp2_with fail
  rw [rounds_succ]
  go_wp2
  go_ret
  exact ⟨_, _, _, rfl, ⟨rfl, .inr ⟨D, 2, _, rfl, BD.out, HD7.out, Nat.le_refl _, by unfold maxLen; omega, rfl, rfl⟩⟩, D07.out, D17.out, B7.out⟩
theorem cmp_tok (w : World) (g1 g2 c1 c2 : Nat) (x y r : Int) (hx : w.cell? ⟨g1, 0, none⟩ = some (.int .u8 x)) (hy : w.cell? ⟨g2, 0, none⟩ = some (.int .u8 y)) (e : Lib.compareBytes (Lib.bytesOf [x]) (Lib.bytesOf [y]) = r) :
    Calls Tryz.prog 190 #[.slice (some ⟨g1, 0, none⟩) 1 c1, .slice (some ⟨g2, 0, none⟩) 1 c2] w fun e w' => e = .returned (.int .i64 r) ∧ w' = w := by
  have := cmp_bytes w ⟨g1, 0, none⟩ ⟨g2, 0, none⟩ 1 1 c1 c2 [x] [y] rfl rfl (one_num hx) (one_num hy)
  rw [e] at this
  exact this
set_option maxRecDepth 100000 in
set_option maxHeartbeats 4000000 in
/-- slices.BinarySearchFunc of two tokens, at the first. -/
theorem bsf_first (w : World) (D cap g0 g1 g c0 c1 c : Nat) (x0 x1 : Int) (h0 : w.cell? ⟨D, 0, none⟩ = some (.slice (some ⟨g0, 0, none⟩) 1 c0)) (h1 : w.cell? ⟨D, 1, none⟩ = some (.slice (some ⟨g1, 0, none⟩) 1 c1))
    (k0 : w.cell? ⟨g0, 0, none⟩ = some (.int .u8 x0)) (k1 : w.cell? ⟨g1, 0, none⟩ = some (.int .u8 x1)) (k : w.cell? ⟨g, 0, none⟩ = some (.int .u8 x0))
    (e1 : Lib.compareBytes (Lib.bytesOf [x1]) (Lib.bytesOf [x0]) = 1) (e0 : Lib.compareBytes (Lib.bytesOf [x0]) (Lib.bytesOf [x0]) = 0) :
    Calls Tryz.prog 218 #[.slice (some ⟨D, 0, none⟩) 2 cap, .slice (some ⟨g, 0, none⟩) 1 c, .func (.func 190) #[] #[]] w fun e w' => e = .returned (.tuple #[.int .i64 0, .bool true]) ∧ w' = w := by
  have C1 := Sd.mk (cmp_tok w g1 g c1 c x1 x0 1 k1 k e1)
  have C0 := Sd.mk (cmp_tok w g0 g c0 c x0 x0 0 k0 k e0)
  clear k0 k1 k e1 e0
  go_enter Tryz.func218, Tryz.ntmps218
  go_wp2
  refine wp_loop_rounds 3 ?_
  rw [rounds_succ]
  go_wp2_with (go_at_call 190; refine C1.out.mono ?_; rintro e w' ⟨rfl, rfl⟩)
  rw [rounds_succ]
  go_wp2_with (go_at_call 190; refine C0.out.mono ?_; rintro e w' ⟨rfl, rfl⟩)
  rw [rounds_succ]
  go_wp2_with (go_at_call 190; refine C0.out.mono ?_; rintro e w' ⟨rfl, rfl⟩)
  go_ret2
  exact ⟨rfl, rfl⟩
set_option maxRecDepth 100000 in
set_option maxHeartbeats 4000000 in
/-- .. at the second. -/
theorem bsf_second (w : World) (D cap g0 g1 g c0 c1 c : Nat) (x0 x1 : Int) (h0 : w.cell? ⟨D, 0, none⟩ = some (.slice (some ⟨g0, 0, none⟩) 1 c0)) (h1 : w.cell? ⟨D, 1, none⟩ = some (.slice (some ⟨g1, 0, none⟩) 1 c1))
    (k0 : w.cell? ⟨g0, 0, none⟩ = some (.int .u8 x0)) (k1 : w.cell? ⟨g1, 0, none⟩ = some (.int .u8 x1)) (k : w.cell? ⟨g, 0, none⟩ = some (.int .u8 x1))
    (e1 : Lib.compareBytes (Lib.bytesOf [x1]) (Lib.bytesOf [x1]) = 0) (e0 : Lib.compareBytes (Lib.bytesOf [x0]) (Lib.bytesOf [x1]) = -1) :
    Calls Tryz.prog 218 #[.slice (some ⟨D, 0, none⟩) 2 cap, .slice (some ⟨g, 0, none⟩) 1 c, .func (.func 190) #[] #[]] w fun e w' => e = .returned (.tuple #[.int .i64 1, .bool true]) ∧ w' = w := by
  have C1 := Sd.mk (cmp_tok w g1 g c1 c x1 x1 0 k1 k e1)
  have C0 := Sd.mk (cmp_tok w g0 g c0 c x0 x1 (-1) k0 k e0)
  clear k0 k1 k e1 e0
  go_enter Tryz.func218, Tryz.ntmps218
  go_wp2
  refine wp_loop_rounds 3 ?_
  rw [rounds_succ]
  go_wp2_with (go_at_call 190; refine C1.out.mono ?_; rintro e w' ⟨rfl, rfl⟩)
  rw [rounds_succ]
  go_wp2_with (go_at_call 190; refine C0.out.mono ?_; rintro e w' ⟨rfl, rfl⟩)
  rw [rounds_succ]
  go_wp2_with (go_at_call 190; refine C1.out.mono ?_; rintro e w' ⟨rfl, rfl⟩)
  go_ret2
  exact ⟨rfl, rfl⟩
set_option maxRecDepth 100000 in
/-- names.Find. -/
theorem find_of (w : World) (A : Value) (g c : Nat) (k : Int) (h : Calls Tryz.prog 218 #[A, .slice (some ⟨g, 0, none⟩) 1 c, .func (.func 190) #[] #[]] w fun e w' => e = .returned (.tuple #[.int .i64 k, .bool true]) ∧ w' = w) :
    Calls Tryz.prog 194 #[A, .slice (some ⟨g, 0, none⟩) 1 c] w fun e w' => e = .returned (.tuple #[.int .i64 k, .bool true]) ∧ w' = w := by
  have H := Sd.mk h
  clear h
  go_enter Tryz.func194, Tryz.ntmps194
  go_wp2_with (go_at_call 218; refine H.out.mono ?_; rintro e w' ⟨rfl, rfl⟩)
  go_ret2
  exact ⟨rfl, rfl⟩
theorem make_ints1 (w : World) : (Instr.makeSlice 22 (.int .i64 1) (.int .i64 1)).run Tryz.prog w = .ok (.slice (some ⟨w.heap.size, 0, none⟩) 1 1) (w.alloc (.cells #[.int .i64 0] 3)) := by
  obtain ⟨i, hi, hz, hs, hb⟩ := info3
  have := run_makeSlice (P := Tryz.prog) w 22 3 i (.int .i64 0) Tryz.underlying22 hi hz .i64 .i64 1 1 (by omega) (by omega) (by rw [hs]; decide) (by rw [hb]; decide) (by omega)
  rw [hs] at this
  have e : madeCells (Value.int .i64 0).cells (Int.toNat 1 * 1) = #[.int .i64 0] := by kernel_rfl
  rw [e] at this
  exact this
theorem make_ints2 (w : World) : (Instr.makeSlice 22 (.int .i64 2) (.int .i64 2)).run Tryz.prog w = .ok (.slice (some ⟨w.heap.size, 0, none⟩) 2 2) (w.alloc (.cells #[.int .i64 0, .int .i64 0] 3)) := by
  obtain ⟨i, hi, hz, hs, hb⟩ := info3
  have := run_makeSlice (P := Tryz.prog) w 22 3 i (.int .i64 0) Tryz.underlying22 hi hz .i64 .i64 2 2 (by omega) (by omega) (by rw [hs]; decide) (by rw [hb]; decide) (by omega)
  rw [hs] at this
  have e : madeCells (Value.int .i64 0).cells (Int.toNat 2 * 1) = #[.int .i64 0, .int .i64 0] := by kernel_rfl
  rw [e] at this
  exact this
theorem Tk.setI {W : World} {v : Value} {ch : Int} (h : Tk W v ch) {D : Nat} {cs : Array Value} (hD : W.heap[D]? = some (.cells cs 3 (0, 0))) (u : Value) (i : Nat) : Tk (W.setCell ⟨D, i, none⟩ u) v ch := by
  obtain ⟨g, c, cs', h1, h2, h3, h4⟩ := h
  refine ⟨g, c, cs', h1, h2, blk_far h3 ?_ u, h4⟩
  rintro rfl
  rw [h3] at hD
  injection hD with hD
  injection hD with _ h5
  exact absurd h5 (by decide)
set_option maxRecDepth 100000 in
set_option maxHeartbeats 4000000 in
/-- names.Ids of 1. -/
theorem ids_one (w : World) (D cap : Nat) (d0 d1 : Value) (h c : Nat) (t0 : Value) (x0 x1 : Int) (h0 : w.cell? ⟨D, 0, none⟩ = some d0) (h1 : w.cell? ⟨D, 1, none⟩ = some d1) (k0 : Tk w d0 x0) (k1 : Tk w d1 x1)
    (s0 : w.cell? ⟨h, 0, none⟩ = some t0) (q0 : Tk w t0 x1)
    (e10 : Lib.compareBytes (Lib.bytesOf [x1]) (Lib.bytesOf [x0]) = 1) (e00 : Lib.compareBytes (Lib.bytesOf [x0]) (Lib.bytesOf [x0]) = 0) (e11 : Lib.compareBytes (Lib.bytesOf [x1]) (Lib.bytesOf [x1]) = 0) (e01 : Lib.compareBytes (Lib.bytesOf [x0]) (Lib.bytesOf [x1]) = -1) :
    Calls Tryz.prog 159 #[.slice (some ⟨D, 0, none⟩) 2 cap, .slice (some ⟨h, 0, none⟩) 1 c] w fun e w' => ∃ v, e = .returned (.tuple #[v, .bool true]) ∧ w'.ownsRow w.heap.size 3 1 v 1 [.int .i64 1] ∧ Below w.heap.size w w' := by
  obtain ⟨g0, c0, rfl⟩ := k0.form
  obtain ⟨g1, c1, rfl⟩ := k1.form
  obtain ⟨u0, m0, rfl⟩ := q0.form
  have SD := Sd.mk (World.block_lt_of_cell? w ⟨D, 0, none⟩ h0)
  have SA0 := Sd.mk (World.block_lt_of_cell? w ⟨h, 0, none⟩ s0)
  have hm := make_ints1 w
  have ha : Below w.heap.size w (w.alloc (.cells #[.int .i64 0] 3)) := (Below.refl _ _).alloc (Nat.le_refl _) _
  have B := Sd.mk ha
  have I := Sd.mk (blk_new w (.cells #[.int .i64 0] 3))
  have L0 := Sd.mk (cell_below h0 ha)
  have L1 := Sd.mk (cell_below h1 ha)
  have K0 := Sd.mk (k0.below ha)
  have K1 := Sd.mk (k1.below ha)
  have Q0 := Sd.mk (q0.below ha)
  have s0 := cell_below s0 ha
  have E10 := Sd.mk e10
  have E00 := Sd.mk e00
  have E11 := Sd.mk e11
  have E01 := Sd.mk e01
  clear e10 e00 e11 e01 h0 h1 k0 k1 ha q0
  go_enter Tryz.func159, Tryz.ntmps159
  go_wp2
  obtain ⟨w1, hw1⟩ : ∃ w1, w1 = w.alloc (.cells #[.int .i64 0] 3) := ⟨_, rfl⟩
  rw [← hw1] at B I L0 L1 K0 K1 Q0 s0 ⊢
  have SZ := Sd.mk (Nat.le_refl w.heap.size)
  have LD := Sd.mk (World.block_lt_of_cell? _ _ L0.out)
  clear hw1 hm
  refine wp_loop_rounds 2 ?_
  rw [rounds_succ]
  have hcell : w1.cell? ⟨w.heap.size, 0, none⟩ = some (.int .i64 0) := (blk_cell I.out 0).trans rfl
  have hfz : w1.frozen? ⟨w.heap.size, 0, none⟩ = false := blk_frozen I.out 0
  go_wp2_with (go_at_call 194; refine (find_of w1 _ _ _ 1 (bsf_second w1 D cap g0 g1 u0 c0 c1 m0 x0 x1 L0.out L1.out K0.out.cell K1.out.cell Q0.out.cell E11.out E01.out)).mono ?_; rintro e w' ⟨rfl, hq⟩; have hq := hq.symm; subst hq)
  obtain ⟨w2, hw2⟩ : ∃ z, z = (w1.setCell ⟨w.heap.size, 0, none⟩ (.int .i64 1)) := ⟨_, rfl⟩
  have F : Below w.heap.size w1 w2 := by rw [hw2]; exact (Below.refl w.heap.size w1).setCell (p := ⟨w.heap.size, 0, none⟩) (Nat.le_refl _) _
  have B := Sd.mk (B.out.trans F)
  have II : w2.heap[w.heap.size]? = some (.cells #[.int .i64 1] 3 (0, 0)) := by rw [hw2]; exact (blk_set I.out 0 _).trans rfl
  have J := K0.out.setI I.out (.int .i64 1) 0
  rw [← hw2] at J
  have K0 := Sd.mk J
  clear J
  have J := K1.out.setI I.out (.int .i64 1) 0
  rw [← hw2] at J
  have K1 := Sd.mk J
  clear J
  have L0 := Sd.mk ((F.cell (p := ⟨D, 0, none⟩) SD.out).trans L0.out)
  have L1 := Sd.mk ((F.cell (p := ⟨D, 1, none⟩) SD.out).trans L1.out)
  have I := Sd.mk II
  clear II F hcell hfz
  rw [← hw2]
  clear hw2
  rw [rounds_succ]
  go_wp2
  go_ret2
  exact ⟨_, rfl, ⟨rfl, .inr ⟨w.heap.size, 1, _, rfl, Nat.le_refl _, I.out, Nat.le_refl _, by unfold maxLen; omega, rfl, rfl⟩⟩, B.out⟩
set_option maxRecDepth 100000 in
set_option maxHeartbeats 4000000 in
/-- names.Ids of 2. -/
theorem ids_two (w : World) (D cap : Nat) (d0 d1 : Value) (h c : Nat) (t0 t1 : Value) (x0 x1 : Int) (h0 : w.cell? ⟨D, 0, none⟩ = some d0) (h1 : w.cell? ⟨D, 1, none⟩ = some d1) (k0 : Tk w d0 x0) (k1 : Tk w d1 x1)
    (s0 : w.cell? ⟨h, 0, none⟩ = some t0) (s1 : w.cell? ⟨h, 1, none⟩ = some t1) (q0 : Tk w t0 x0) (q1 : Tk w t1 x1)
    (e10 : Lib.compareBytes (Lib.bytesOf [x1]) (Lib.bytesOf [x0]) = 1) (e00 : Lib.compareBytes (Lib.bytesOf [x0]) (Lib.bytesOf [x0]) = 0) (e11 : Lib.compareBytes (Lib.bytesOf [x1]) (Lib.bytesOf [x1]) = 0) (e01 : Lib.compareBytes (Lib.bytesOf [x0]) (Lib.bytesOf [x1]) = -1) :
    Calls Tryz.prog 159 #[.slice (some ⟨D, 0, none⟩) 2 cap, .slice (some ⟨h, 0, none⟩) 2 c] w fun e w' => ∃ v, e = .returned (.tuple #[v, .bool true]) ∧ w'.ownsRow w.heap.size 3 1 v 2 [.int .i64 0, .int .i64 1] ∧ Below w.heap.size w w' := by
  obtain ⟨g0, c0, rfl⟩ := k0.form
  obtain ⟨g1, c1, rfl⟩ := k1.form
  obtain ⟨u0, m0, rfl⟩ := q0.form
  obtain ⟨u1, m1, rfl⟩ := q1.form
  have SD := Sd.mk (World.block_lt_of_cell? w ⟨D, 0, none⟩ h0)
  have SA0 := Sd.mk (World.block_lt_of_cell? w ⟨h, 0, none⟩ s0)
  have SA1 := Sd.mk (World.block_lt_of_cell? w ⟨h, 1, none⟩ s1)
  have hm := make_ints2 w
  have ha : Below w.heap.size w (w.alloc (.cells #[.int .i64 0, .int .i64 0] 3)) := (Below.refl _ _).alloc (Nat.le_refl _) _
  have B := Sd.mk ha
  have I := Sd.mk (blk_new w (.cells #[.int .i64 0, .int .i64 0] 3))
  have L0 := Sd.mk (cell_below h0 ha)
  have L1 := Sd.mk (cell_below h1 ha)
  have K0 := Sd.mk (k0.below ha)
  have K1 := Sd.mk (k1.below ha)
  have Q0 := Sd.mk (q0.below ha)
  have s0 := cell_below s0 ha
  have Q1 := Sd.mk (q1.below ha)
  have s1 := cell_below s1 ha
  have E10 := Sd.mk e10
  have E00 := Sd.mk e00
  have E11 := Sd.mk e11
  have E01 := Sd.mk e01
  clear e10 e00 e11 e01 h0 h1 k0 k1 ha q0 q1
  go_enter Tryz.func159, Tryz.ntmps159
  go_wp2
  obtain ⟨w1, hw1⟩ : ∃ w1, w1 = w.alloc (.cells #[.int .i64 0, .int .i64 0] 3) := ⟨_, rfl⟩
  rw [← hw1] at B I L0 L1 K0 K1 Q0 s0 Q1 s1 ⊢
  have SZ := Sd.mk (Nat.le_refl w.heap.size)
  have LD := Sd.mk (World.block_lt_of_cell? _ _ L0.out)
  clear hw1 hm
  refine wp_loop_rounds 3 ?_
  rw [rounds_succ]
  have hcell : w1.cell? ⟨w.heap.size, 0, none⟩ = some (.int .i64 0) := (blk_cell I.out 0).trans rfl
  have hfz : w1.frozen? ⟨w.heap.size, 0, none⟩ = false := blk_frozen I.out 0
  go_wp2_with (go_at_call 194; refine (find_of w1 _ _ _ 0 (bsf_first w1 D cap g0 g1 u0 c0 c1 m0 x0 x1 L0.out L1.out K0.out.cell K1.out.cell Q0.out.cell E10.out E00.out)).mono ?_; rintro e w' ⟨rfl, hq⟩; have hq := hq.symm; subst hq)
  obtain ⟨w2, hw2⟩ : ∃ z, z = (w1.setCell ⟨w.heap.size, 0, none⟩ (.int .i64 0)) := ⟨_, rfl⟩
  have F : Below w.heap.size w1 w2 := by rw [hw2]; exact (Below.refl w.heap.size w1).setCell (p := ⟨w.heap.size, 0, none⟩) (Nat.le_refl _) _
  have B := Sd.mk (B.out.trans F)
  have II : w2.heap[w.heap.size]? = some (.cells #[.int .i64 0, .int .i64 0] 3 (0, 0)) := by rw [hw2]; exact (blk_set I.out 0 _).trans rfl
  have J := K0.out.setI I.out (.int .i64 0) 0
  rw [← hw2] at J
  have K0 := Sd.mk J
  clear J
  have J := K1.out.setI I.out (.int .i64 0) 0
  rw [← hw2] at J
  have K1 := Sd.mk J
  clear J
  have J := Q1.out.setI I.out (.int .i64 0) 0
  rw [← hw2] at J
  have Q1 := Sd.mk J
  clear J
  have s1 := (F.cell (p := ⟨h, 1, none⟩) SA1.out).trans s1
  have L0 := Sd.mk ((F.cell (p := ⟨D, 0, none⟩) SD.out).trans L0.out)
  have L1 := Sd.mk ((F.cell (p := ⟨D, 1, none⟩) SD.out).trans L1.out)
  have I := Sd.mk II
  clear II F hcell hfz
  rw [← hw2]
  clear hw2
  rw [rounds_succ]
  have hcell : w2.cell? ⟨w.heap.size, 1, none⟩ = some (.int .i64 0) := (blk_cell I.out 1).trans rfl
  have hfz : w2.frozen? ⟨w.heap.size, 1, none⟩ = false := blk_frozen I.out 1
  go_wp2_with (go_at_call 194; refine (find_of w2 _ _ _ 1 (bsf_second w2 D cap g0 g1 u1 c0 c1 m1 x0 x1 L0.out L1.out K0.out.cell K1.out.cell Q1.out.cell E11.out E01.out)).mono ?_; rintro e w' ⟨rfl, hq⟩; have hq := hq.symm; subst hq)
  obtain ⟨w3, hw3⟩ : ∃ z, z = (w2.setCell ⟨w.heap.size, 1, none⟩ (.int .i64 1)) := ⟨_, rfl⟩
  have F : Below w.heap.size w2 w3 := by rw [hw3]; exact (Below.refl w.heap.size w2).setCell (p := ⟨w.heap.size, 1, none⟩) (Nat.le_refl _) _
  have B := Sd.mk (B.out.trans F)
  have II : w3.heap[w.heap.size]? = some (.cells #[.int .i64 0, .int .i64 1] 3 (0, 0)) := by rw [hw3]; exact (blk_set I.out 1 _).trans rfl
  have J := K0.out.setI I.out (.int .i64 1) 1
  rw [← hw3] at J
  have K0 := Sd.mk J
  clear J
  have J := K1.out.setI I.out (.int .i64 1) 1
  rw [← hw3] at J
  have K1 := Sd.mk J
  clear J
  have L0 := Sd.mk ((F.cell (p := ⟨D, 0, none⟩) SD.out).trans L0.out)
  have L1 := Sd.mk ((F.cell (p := ⟨D, 1, none⟩) SD.out).trans L1.out)
  have I := Sd.mk II
  clear II F hcell hfz
  rw [← hw3]
  clear hw3
  rw [rounds_succ]
  go_wp2
  go_ret2
  exact ⟨_, rfl, ⟨rfl, .inr ⟨w.heap.size, 2, _, rfl, Nat.le_refl _, I.out, Nat.le_refl _, by unfold maxLen; omega, rfl, rfl⟩⟩, B.out⟩
set_option maxRecDepth 100000 in
set_option maxHeartbeats 8000000 in
/-- names.Two of two tokens and one that is like the second. -/
theorem two_ab (w : World) (h1 h2 c1 c2 : Nat) (t0 t1 t2 : Value) (x0 x1 : Int) (s0 : w.cell? ⟨h1, 0, none⟩ = some t0) (s1 : w.cell? ⟨h1, 1, none⟩ = some t1) (s2 : w.cell? ⟨h2, 0, none⟩ = some t2) (q0 : Tk w t0 x0) (q1 : Tk w t1 x1) (q2 : Tk w t2 x1)
    (e10 : Lib.compareBytes (Lib.bytesOf [x1]) (Lib.bytesOf [x0]) = 1) (e00 : Lib.compareBytes (Lib.bytesOf [x0]) (Lib.bytesOf [x0]) = 0) (e11 : Lib.compareBytes (Lib.bytesOf [x1]) (Lib.bytesOf [x1]) = 0) (e01 : Lib.compareBytes (Lib.bytesOf [x0]) (Lib.bytesOf [x1]) = -1) (e3 : ((strOfNums [x1]).toList == (strOfNums [x0]).toList) = false) :
    Calls Tryz.prog 112 #[.slice (some ⟨h1, 0, none⟩) 2 c1, .slice (some ⟨h2, 0, none⟩) 1 c2] w fun e w' => ∃ v1 v2, e = .returned (.tuple #[v1, v2, .int .i64 2]) ∧ w'.ownsRow w.heap.size 3 1 v1 2 [.int .i64 0, .int .i64 1] ∧ w'.ownsRow w.heap.size 3 1 v2 1 [.int .i64 1] ∧ Below w.heap.size w w' := by
  have ha : Below w.heap.size w (w.alloc (.cells #[.slice (some ⟨h1, 0, none⟩) 2 c1, .slice (some ⟨h2, 0, none⟩) 1 c2] 82)) := (Below.refl _ _).alloc (Nat.le_refl _) _
  have S0 := Sd.mk s0
  have S1 := Sd.mk s1
  have S2 := Sd.mk s2
  have Q0 := Sd.mk q0
  have Q1 := Sd.mk q1
  have Q2 := Sd.mk q2
  have EE := Sd.mk (And.intro e10 (And.intro e00 (And.intro e11 e01)))
  have E3 := Sd.mk e3
  have B1 := Sd.mk ha
  have P1 := Sd.mk (blk_new w (.cells #[.slice (some ⟨h1, 0, none⟩) 2 c1, .slice (some ⟨h2, 0, none⟩) 1 c2] 82))
  clear ha s0 s1 s2 q0 q1 q2 e10 e00 e11 e01 e3
  go_enter Tryz.func112, Tryz.ntmps112
  go_wp2_with fail
  obtain ⟨w1, hw1⟩ : ∃ w1, w1 = w.alloc (.cells #[.slice (some ⟨h1, 0, none⟩) 2 c1, .slice (some ⟨h2, 0, none⟩) 1 c2] 82) := ⟨_, rfl⟩
  rw [← hw1] at B1 P1 ⊢
  clear hw1
  refine (concat_rows w1 w.heap.size (.slice none 0 0) (.slice none 0 0) ⟨h1, 0, none⟩ ⟨h2, 0, none⟩ 2 1 c1 c2 [t0, t1] [t2] P1.out rfl rfl (fun j u hj => by
    match j, hj with
    | 0, hj => simp at hj; subst hj; exact cell_below S0.out B1.out
    | 1, hj => simp at hj; subst hj; exact cell_below S1.out B1.out
    | j + 2, hj => simp at hj) (one_at (cell_below S2.out B1.out)) (by simp [Q0.out.one, Q1.out.one]) (by simp [Q2.out.one]) (by decide) (by decide)).mono ?_
  rintro e w2 ⟨v, rfl, ho, hb⟩
  obtain ⟨g, cap, cur, rfl, hg, hcur, hcap, hsz, htk⟩ := own_block ho (by decide)
  have B2 := Sd.mk (B1.out.trans (hb.mono B1.out.size))
  have R := Sd.mk (show Row3 w2 ⟨g, 0, none⟩ t0 t1 t2 x0 x1 from ⟨fun j u hj => by
    match j, hj with
    | 0, hj => simp at hj; subst hj; exact (blk_cell hcur 0).trans (take_at htk 0 (by decide))
    | 1, hj => simp at hj; subst hj; exact (blk_cell hcur 1).trans (take_at htk 1 (by decide))
    | 2, hj => simp at hj; subst hj; exact (blk_cell hcur 2).trans (take_at htk 2 (by decide))
    | j + 3, hj => simp at hj, Q0.out.below B2.out, Q1.out.below B2.out, Q2.out.below B2.out⟩)
  clear ho hb hcur hg hcap hsz htk P1 B1
  go_wp2_with fail
  refine (names_sort3 w2 ⟨g, 0, none⟩ cap t0 t1 t2 x0 x1 R.out EE.out.1 EE.out.2.2.1 E3.out).mono ?_
  rintro e w3 ⟨v, d0, d1, rfl, ho, hd0, hd1, hb⟩
  obtain ⟨D, dcap, dcur, rfl, hg, hcur, hcap, hsz, htk⟩ := own_block ho (by decide)
  have B3 := Sd.mk (B2.out.trans (hb.mono B2.out.size))
  have L0 := Sd.mk ((blk_cell hcur 0).trans (take_at htk 0 (by decide)))
  have L1 := Sd.mk ((blk_cell hcur 1).trans (take_at htk 1 (by decide)))
  have D0 := Sd.mk hd0
  have D1 := Sd.mk hd1
  clear ho hb hcur hg hcap hsz htk hd0 hd1 R B2
  go_wp2_with fail
  refine (ids_two w3 D dcap d0 d1 h1 c1 t0 t1 x0 x1 L0.out L1.out D0.out D1.out (cell_below S0.out B3.out) (cell_below S1.out B3.out) (Q0.out.below B3.out) (Q1.out.below B3.out) EE.out.1 EE.out.2.1 EE.out.2.2.1 EE.out.2.2.2).mono ?_
  rintro e w4 ⟨v1, rfl, ho, hb⟩
  have B4 := Sd.mk (B3.out.trans (hb.mono B3.out.size))
  have V1 := Sd.mk (own_less ho B3.out.size)
  have M0 := Sd.mk (cell_below L0.out hb)
  have M1 := Sd.mk (cell_below L1.out hb)
  have N0 := Sd.mk (D0.out.below hb)
  have N1 := Sd.mk (D1.out.below hb)
  clear ho hb L0 L1 D0 D1 B3
  go_wp2_with fail
  refine (ids_one w4 D dcap d0 d1 h2 c2 t2 x0 x1 M0.out M1.out N0.out N1.out (cell_below S2.out B4.out) (Q2.out.below B4.out) EE.out.1 EE.out.2.1 EE.out.2.2.1 EE.out.2.2.2).mono ?_
  rintro e w5 ⟨v2, rfl, ho, hb⟩
  have B5 := Sd.mk (B4.out.trans (hb.mono B4.out.size))
  have V15 := Sd.mk (own_below V1.out hb)
  have V2 := Sd.mk (own_less ho B4.out.size)
  clear ho hb
  go_wp2
  refine bodyPost_ret (results_tmp3 rfl _ _ _) rfl ?_
  exact ⟨v1, v2, rfl, V15.out, V2.out, B5.out⟩
set_option maxRecDepth 100000 in
set_option maxHeartbeats 8000000 in
/-- trim.Of of 0 1 and 1. -/
theorem trim_of (w : World) (X Y cx cy : Nat) (x0 : w.cell? ⟨X, 0, none⟩ = some (.int .i64 0)) (x1 : w.cell? ⟨X, 1, none⟩ = some (.int .i64 1)) (y0 : w.cell? ⟨Y, 0, none⟩ = some (.int .i64 1)) (hcx : 2 ≤ cx) (hcy : 1 ≤ cy) :
    Calls Tryz.prog 141 #[.slice (some ⟨X, 0, none⟩) 2 cx, .slice (some ⟨Y, 0, none⟩) 1 cy] w fun e w' => e = .returned (.tuple #[.int .i64 0, .int .i64 1]) ∧ ∃ n, w' = w.drewN n := by
  go_enter Tryz.func141, Tryz.ntmps141
  go_wp2
  refine wp_loop_rounds 1 ?_
  rw [rounds_succ]
  go_wp2_with fail
  go_quiet (fail)
  go_wp2_with fail
  go_quiet (fail)
  go_wp2_with fail
  refine wp_loop_rounds 2 ?_
  rw [rounds_succ]
  go_wp2_with fail
  go_quiet (fail)
  go_wp2_with fail
  rw [rounds_succ]
  go_wp2_with fail
  go_quiet (fail)
  go_wp2_with fail
  go_ret2
  exact ⟨rfl, _, World.drewN_drewN _ _ _⟩
set_option maxRecDepth 100000 in
set_option maxHeartbeats 8000000 in
/-- trim.Mid of 0 1 and 1. -/
theorem trim_mid (w : World) (X Y cx cy : Nat) (x0 : w.cell? ⟨X, 0, none⟩ = some (.int .i64 0)) (x1 : w.cell? ⟨X, 1, none⟩ = some (.int .i64 1)) (y0 : w.cell? ⟨Y, 0, none⟩ = some (.int .i64 1)) (hcx : 2 ≤ cx) (hcy : 1 ≤ cy) :
    Calls Tryz.prog 142 #[.slice (some ⟨X, 0, none⟩) 2 cx, .slice (some ⟨Y, 0, none⟩) 1 cy] w fun e w' => ∃ v1 v2, e = .returned (.tuple #[v1, v2]) ∧ w'.ownsRow w.heap.size 3 1 v1 1 [.int .i64 0] ∧ w'.ownsRow w.heap.size 3 1 v2 0 [] ∧ Below w.heap.size w w' := by
  have O := Sd.mk (trim_of w X Y cx cy x0 x1 y0 hcx hcy)
  have X0 : Sd (∀ m, (w.drewN m).cell? ⟨X, 0, none⟩ = some (.int .i64 0)) := ⟨fun m => x0⟩
  have HX := Sd.mk hcx
  have HY := Sd.mk hcy
  have i1 : (1 : Int) ≤ (cx : Int) := by omega
  have i2 : ¬ cx = 0 := by omega
  have i3 : ¬ cy = 0 := by omega
  have i6 : IntKind.i64.wrap 1 = 1 := by decide
  have i7 : IntKind.i64.wrap 0 = 0 := by decide
  clear x0 x1 y0
  go_enter Tryz.func142, Tryz.ntmps142
  go_wp2_with (go_at_call 141; refine O.out.mono ?_; rintro e w' ⟨rfl, n, rfl⟩)
  have C1 := Sd.mk (fun (W : World) (q : W.cell? ⟨X, 0, none⟩ = some (.int .i64 0)) => clone_ints W ⟨X, 0, none⟩ 1 cx [.int .i64 0] rfl (one_at q) (by simp [Value.oneCell']) (by omega))
  have C2 := Sd.mk (fun W => clone_ints W ⟨Y, 0, none⟩ 0 cy [] rfl (fun j u hj => by simp at hj) (by simp) (by omega))
  go_region_with (first | (go_at_call 127; with_reducible refine (C1.out _ (X0.out _)).mono ?_; rintro e w1 ⟨v1, rfl, ho, hb⟩; have V1 := Sd.mk ho; have B1 := Sd.mk hb; clear ho hb) | (go_at_call 127; with_reducible refine (C2.out _).mono ?_; rintro e w2 ⟨v2, rfl, ho, hb⟩; have V2 := Sd.mk ho; have B2 := Sd.mk hb; clear ho hb))
  have b1 : Below w.heap.size w w1 := (below_drewN' (Below.refl w.heap.size w) _).trans B1.out
  have b2 := b1.trans (B2.out.mono b1.size)
  have v1' : w2.ownsRow w.heap.size 3 1 v1 1 [.int .i64 0] := own_below (own_less V1.out (Nat.le_refl _)) B2.out
  have v2' : w2.ownsRow w.heap.size 3 1 v2 0 [] := own_less V2.out b1.size
  have V1' := Sd.mk v1'
  have V2' := Sd.mk v2'
  have BB := Sd.mk b2
  clear b1 b2 v1' v2' V1 V2 B1 B2
  go_wp2
  go_ret2
  exact ⟨v1, v2, rfl, V1'.out, V2'.out, BB.out⟩
theorem own_set {W : World} {B e sz n : Nat} {v : Value} {xs : List Value} (h : W.ownsRow B e sz v n xs) {D ty : Nat} {cs : Array Value} (hD : W.heap[D]? = some (.cells cs ty (0, 0))) (hne : ty ≠ e) (i : Nat) (u : Value) : (W.setCell ⟨D, i, none⟩ u).ownsRow B e sz v n xs := by
  refine own_move h (fun k o hk ho => ?_)
  obtain ⟨cs', h2⟩ := own_typed h k hk
  rw [h2] at ho
  cases ho
  refine blk_far h2 ?_ u
  rintro rfl
  rw [hD] at h2
  injection h2 with h2
  injection h2 with _ h5
  exact hne h5
theorem Tk.put {W : World} {v : Value} {ch : Int} (h : Tk W v ch) {D ty : Nat} {cs : Array Value} (hD : W.heap[D]? = some (.cells cs ty (0, 0))) (hne : ty ≠ 5) (i : Nat) (u : Value) : Tk (W.setCell ⟨D, i, none⟩ u) v ch := by
  obtain ⟨g, c, cs', h1, h2, h3, h4⟩ := h
  refine ⟨g, c, cs', h1, h2, blk_far h3 ?_ u, h4⟩
  rintro rfl
  rw [h3] at hD
  injection hD with hD
  injection hD with _ h5
  exact hne h5.symm
theorem own_slice {W : World} {B e sz n : Nat} {v : Value} {xs : List Value} (h : W.ownsRow B e sz v n xs) : ∃ A c, v = .slice A n c := by
  rcases h.2 with ⟨rfl, rfl⟩ | ⟨g, cap, cur, rfl, _⟩
  · exact ⟨none, 0, rfl⟩
  · exact ⟨_, _, rfl⟩
theorem own_form {W : World} {B e sz n : Nat} {v : Value} {xs : List Value} (h : W.ownsRow B e sz v n xs) (hn : 0 < n) : ∃ g c, v = .slice (some ⟨g, 0, none⟩) n c := by
  obtain ⟨g, cap, cur, h1, _⟩ := own_block h hn
  exact ⟨g, cap, h1⟩
theorem own_cell {W : World} {B e g n c : Nat} {xs : List Value} (h : W.ownsRow B e 1 (.slice (some ⟨g, 0, none⟩) n c) n xs) (i : Nat) (hi : i < n) : W.cell? ⟨g, i, none⟩ = xs[i]? := by
  obtain ⟨g', cap, cur, h1, h2, h3, h4, h5, h6⟩ := own_block h (by omega)
  injection h1 with h1 _ _
  injection h1 with h1
  injection h1 with h1
  subst h1
  exact (blk_cell h3 i).trans (take_at h6 i (by omega))
theorem own_cap {W : World} {B e sz n c : Nat} {A : Option Addr} {xs : List Value} (h : W.ownsRow B e sz (.slice A n c) n xs) : n ≤ c := by
  rcases h.2 with ⟨h1, rfl⟩ | ⟨g, cap, cur, h1, _, _, h4, _⟩
  · omega
  · injection h1 with _ _ h1
    omega
theorem below_both {w W V : World} (h : Below w.heap.size w W) (hb : Below W.heap.size W V) : Below w.heap.size w V := h.trans (hb.mono h.size)
set_option maxRecDepth 100000 in
set_option maxHeartbeats 8000000 in
/-- port.cut of a b and b. -/
theorem port_cut (w : World) (ga gb : Nat) (a0 : w.cell? ⟨ga, 0, none⟩ = some (.int .u8 97)) (a1 : w.cell? ⟨ga, 1, none⟩ = some (.int .u8 98)) (b0 : w.cell? ⟨gb, 0, none⟩ = some (.int .u8 98)) :
    Calls Tryz.prog 84 #[.int .i64 0, .slice (some ⟨ga, 0, none⟩) 2 2, .slice (some ⟨gb, 0, none⟩) 1 1] w fun e w' => ∃ ta tb x y u v t0 t1 t2, e = .returned (.tuple #[.agg #[ta, tb, x, y, .int .i64 0, .int .i64 1, u, v], .int .i64 0]) ∧
      (w'.ownsRow w.heap.size 35 1 ta 2 [t0, t1] ∧ w'.ownsRow w.heap.size 35 1 tb 1 [t2] ∧ Tk w' t0 97 ∧ Tk w' t1 98 ∧ Tk w' t2 98) ∧ (w'.ownsRow w.heap.size 3 1 x 2 [.int .i64 0, .int .i64 1] ∧ w'.ownsRow w.heap.size 3 1 y 1 [.int .i64 1]) ∧ (w'.ownsRow w.heap.size 3 1 u 1 [.int .i64 0] ∧ w'.ownsRow w.heap.size 3 1 v 0 []) ∧ Below w.heap.size w w' := by
  have A0 := Sd.mk a0
  have A1 := Sd.mk a1
  have B0 := Sd.mk b0
  clear a0 a1 b0
  go_enter Tryz.func84, Tryz.ntmps84
  go_wp2_with fail
  obtain ⟨w1, hw1⟩ : ∃ w1, w1 = (w.alloc (.cells #[.slice none 0 0, .slice none 0 0, .slice none 0 0, .slice none 0 0, .int .i64 0, .int .i64 0, .slice none 0 0, .slice none 0 0] 84)).alloc (.cells #[.slice none 0 0, .slice none 0 0, .slice none 0 0, .slice none 0 0, .int .i64 0, .int .i64 0, .slice none 0 0, .slice none 0 0] 84) := ⟨_, rfl⟩
  have HR : Sd (w1.heap[w.heap.size]? = some (.cells #[.slice none 0 0, .slice none 0 0, .slice none 0 0, .slice none 0 0, .int .i64 0, .int .i64 0, .slice none 0 0, .slice none 0 0] 84 (0, 0))) := ⟨by rw [hw1]; exact blk_alloc (blk_new w _) _⟩
  have HT : Sd (w1.heap[w.heap.size + 1]? = some (.cells #[.slice none 0 0, .slice none 0 0, .slice none 0 0, .slice none 0 0, .int .i64 0, .int .i64 0, .slice none 0 0, .slice none 0 0] 84 (0, 0))) := ⟨by
    have := blk_new (w.alloc (.cells #[.slice none 0 0, .slice none 0 0, .slice none 0 0, .slice none 0 0, .int .i64 0, .int .i64 0, .slice none 0 0, .slice none 0 0] 84)) (.cells #[.slice none 0 0, .slice none 0 0, .slice none 0 0, .slice none 0 0, .int .i64 0, .int .i64 0, .slice none 0 0, .slice none 0 0] 84)
    rw [World.size_alloc] at this
    rw [hw1]; exact this⟩
  have B : Sd (Below w.heap.size w w1) := ⟨by rw [hw1]; exact ((Below.refl w.heap.size w).alloc (Nat.le_refl _) _).alloc (by rw [World.size_alloc]; omega) _⟩
  rw [← hw1]
  clear hw1
  refine (cut_two w1 ga 97 98 (cell_below A0.out B.out) (cell_below A1.out B.out)).mono ?_
  rintro e w2 ⟨ta, t0, t1, rfl, ho, q0, q1, hb⟩
  have HR := Sd.mk (blk_below HR.out hb (blk_lt HR.out))
  have HT := Sd.mk (blk_below HT.out hb (blk_lt HT.out))
  have Ota := Sd.mk (own_less ho B.out.size)
  have K0 := Sd.mk (q0)
  have K1 := Sd.mk (q1)
  have B := Sd.mk (below_both B.out hb)
  clear ho q0 q1 hb
  obtain ⟨taG, taC, rfl⟩ := own_form Ota.out (by decide)
  have c0 : w2.cell? ⟨w.heap.size + 1, 0, none⟩ = some (.slice none 0 0) := (blk_cell HT.out 0).trans rfl
  have f0 : w2.frozen? ⟨w.heap.size + 1, 0, none⟩ = false := blk_frozen HT.out 0
  go_wp2_with fail
  clear c0 f0
  obtain ⟨w3, hw3⟩ : ∃ z, z = w2.setCell ⟨w.heap.size + 1, 0, none⟩ (.slice (some ⟨taG, 0, none⟩) 2 taC) := ⟨_, rfl⟩
  have HR : Sd (w3.heap[w.heap.size]? = some (.cells #[.slice none 0 0, .slice none 0 0, .slice none 0 0, .slice none 0 0, .int .i64 0, .int .i64 0, .slice none 0 0, .slice none 0 0] 84 (0, 0))) := ⟨by rw [hw3]; exact blk_far HR.out (p := ⟨w.heap.size + 1, 0, none⟩) (by show w.heap.size ≠ w.heap.size + 1; omega) _⟩
  have J := own_set Ota.out HT.out (by decide) 0 (.slice (some ⟨taG, 0, none⟩) 2 taC)
  rw [← hw3] at J
  have Ota := Sd.mk J
  clear J
  have J := Tk.put K0.out HT.out (by decide) 0 (.slice (some ⟨taG, 0, none⟩) 2 taC)
  rw [← hw3] at J
  have K0 := Sd.mk J
  clear J
  have J := Tk.put K1.out HT.out (by decide) 0 (.slice (some ⟨taG, 0, none⟩) 2 taC)
  rw [← hw3] at J
  have K1 := Sd.mk J
  clear J
  have B : Sd (Below w.heap.size w w3) := ⟨by rw [hw3]; exact B.out.setCell (p := ⟨w.heap.size + 1, 0, none⟩) (by show w.heap.size ≤ w.heap.size + 1; omega) _⟩
  have HT : Sd (w3.heap[w.heap.size + 1]? = some (.cells #[.slice (some ⟨taG, 0, none⟩) 2 taC, .slice none 0 0, .slice none 0 0, .slice none 0 0, .int .i64 0, .int .i64 0, .slice none 0 0, .slice none 0 0] 84 (0, 0))) := ⟨by rw [hw3]; exact (blk_set HT.out 0 _).trans rfl⟩
  rw [← hw3]
  clear hw3
  refine (cut_one w3 gb 98 (cell_below B0.out B.out)).mono ?_
  rintro e w4 ⟨tb, t2, rfl, ho, q2, hb⟩
  have HR := Sd.mk (blk_below HR.out hb (blk_lt HR.out))
  have HT := Sd.mk (blk_below HT.out hb (blk_lt HT.out))
  have Ota := Sd.mk (own_below Ota.out hb)
  have K0 := Sd.mk (K0.out.below hb)
  have K1 := Sd.mk (K1.out.below hb)
  have Otb := Sd.mk (own_less ho B.out.size)
  have K2 := Sd.mk (q2)
  have B := Sd.mk (below_both B.out hb)
  clear ho q2 hb
  obtain ⟨tbG, tbC, rfl⟩ := own_form Otb.out (by decide)
  have c0 : w4.cell? ⟨w.heap.size + 1, 0, none⟩ = some (.slice (some ⟨taG, 0, none⟩) 2 taC) := (blk_cell HT.out 0).trans rfl
  have f0 : w4.frozen? ⟨w.heap.size + 1, 0, none⟩ = false := blk_frozen HT.out 0
  have c1 : w4.cell? ⟨w.heap.size + 1, 1, none⟩ = some (.slice none 0 0) := (blk_cell HT.out 1).trans rfl
  have f1 : w4.frozen? ⟨w.heap.size + 1, 1, none⟩ = false := blk_frozen HT.out 1
  go_wp2_with fail
  clear c0 f0 c1 f1
  obtain ⟨w5, hw5⟩ : ∃ z, z = w4.setCell ⟨w.heap.size + 1, 1, none⟩ (.slice (some ⟨tbG, 0, none⟩) 1 tbC) := ⟨_, rfl⟩
  have HR : Sd (w5.heap[w.heap.size]? = some (.cells #[.slice none 0 0, .slice none 0 0, .slice none 0 0, .slice none 0 0, .int .i64 0, .int .i64 0, .slice none 0 0, .slice none 0 0] 84 (0, 0))) := ⟨by rw [hw5]; exact blk_far HR.out (p := ⟨w.heap.size + 1, 1, none⟩) (by show w.heap.size ≠ w.heap.size + 1; omega) _⟩
  have J := own_set Ota.out HT.out (by decide) 1 (.slice (some ⟨tbG, 0, none⟩) 1 tbC)
  rw [← hw5] at J
  have Ota := Sd.mk J
  clear J
  have J := Tk.put K0.out HT.out (by decide) 1 (.slice (some ⟨tbG, 0, none⟩) 1 tbC)
  rw [← hw5] at J
  have K0 := Sd.mk J
  clear J
  have J := Tk.put K1.out HT.out (by decide) 1 (.slice (some ⟨tbG, 0, none⟩) 1 tbC)
  rw [← hw5] at J
  have K1 := Sd.mk J
  clear J
  have J := own_set Otb.out HT.out (by decide) 1 (.slice (some ⟨tbG, 0, none⟩) 1 tbC)
  rw [← hw5] at J
  have Otb := Sd.mk J
  clear J
  have J := Tk.put K2.out HT.out (by decide) 1 (.slice (some ⟨tbG, 0, none⟩) 1 tbC)
  rw [← hw5] at J
  have K2 := Sd.mk J
  clear J
  have B : Sd (Below w.heap.size w w5) := ⟨by rw [hw5]; exact B.out.setCell (p := ⟨w.heap.size + 1, 1, none⟩) (by show w.heap.size ≤ w.heap.size + 1; omega) _⟩
  have HT : Sd (w5.heap[w.heap.size + 1]? = some (.cells #[.slice (some ⟨taG, 0, none⟩) 2 taC, .slice (some ⟨tbG, 0, none⟩) 1 tbC, .slice none 0 0, .slice none 0 0, .int .i64 0, .int .i64 0, .slice none 0 0, .slice none 0 0] 84 (0, 0))) := ⟨by rw [hw5]; exact (blk_set HT.out 1 _).trans rfl⟩
  rw [← hw5]
  clear hw5
  have c0 : w5.cell? ⟨w.heap.size + 1, 0, none⟩ = some (.slice (some ⟨taG, 0, none⟩) 2 taC) := (blk_cell HT.out 0).trans rfl
  have f0 : w5.frozen? ⟨w.heap.size + 1, 0, none⟩ = false := blk_frozen HT.out 0
  have c1 : w5.cell? ⟨w.heap.size + 1, 1, none⟩ = some (.slice (some ⟨tbG, 0, none⟩) 1 tbC) := (blk_cell HT.out 1).trans rfl
  have f1 : w5.frozen? ⟨w.heap.size + 1, 1, none⟩ = false := blk_frozen HT.out 1
  go_wp2_with fail
  clear c0 f0 c1 f1
  refine (two_ab w5 taG tbG taC tbC t0 t1 t2 97 98 ((own_cell Ota.out 0 (by decide)).trans rfl) ((own_cell Ota.out 1 (by decide)).trans rfl) ((own_cell Otb.out 0 (by decide)).trans rfl) K0.out K1.out K2.out (by decide +kernel) (by decide +kernel) (by decide +kernel) (by decide +kernel) (by decide +kernel)).mono ?_
  rintro e w6 ⟨x, y, rfl, ho, ho2, hb⟩
  have HR := Sd.mk (blk_below HR.out hb (blk_lt HR.out))
  have HT := Sd.mk (blk_below HT.out hb (blk_lt HT.out))
  have Ota := Sd.mk (own_below Ota.out hb)
  have K0 := Sd.mk (K0.out.below hb)
  have K1 := Sd.mk (K1.out.below hb)
  have Otb := Sd.mk (own_below Otb.out hb)
  have K2 := Sd.mk (K2.out.below hb)
  have Ox := Sd.mk (own_less ho B.out.size)
  have Oy := Sd.mk (own_less ho2 B.out.size)
  have B := Sd.mk (below_both B.out hb)
  clear ho ho2 hb
  obtain ⟨xG, xC, rfl⟩ := own_form Ox.out (by decide)
  obtain ⟨yG, yC, rfl⟩ := own_form Oy.out (by decide)
  have c2 : w6.cell? ⟨w.heap.size + 1, 2, none⟩ = some (.slice none 0 0) := (blk_cell HT.out 2).trans rfl
  have f2 : w6.frozen? ⟨w.heap.size + 1, 2, none⟩ = false := blk_frozen HT.out 2
  have c3 : w6.cell? ⟨w.heap.size + 1, 3, none⟩ = some (.slice none 0 0) := (blk_cell HT.out 3).trans rfl
  have f3 : w6.frozen? ⟨w.heap.size + 1, 3, none⟩ = false := blk_frozen HT.out 3
  go_wp2_with fail
  clear c2 f2 c3 f3
  obtain ⟨w7, hw7⟩ : ∃ z, z = w6.setCell ⟨w.heap.size + 1, 2, none⟩ (.slice (some ⟨xG, 0, none⟩) 2 xC) := ⟨_, rfl⟩
  have HR : Sd (w7.heap[w.heap.size]? = some (.cells #[.slice none 0 0, .slice none 0 0, .slice none 0 0, .slice none 0 0, .int .i64 0, .int .i64 0, .slice none 0 0, .slice none 0 0] 84 (0, 0))) := ⟨by rw [hw7]; exact blk_far HR.out (p := ⟨w.heap.size + 1, 2, none⟩) (by show w.heap.size ≠ w.heap.size + 1; omega) _⟩
  have J := own_set Ota.out HT.out (by decide) 2 (.slice (some ⟨xG, 0, none⟩) 2 xC)
  rw [← hw7] at J
  have Ota := Sd.mk J
  clear J
  have J := Tk.put K0.out HT.out (by decide) 2 (.slice (some ⟨xG, 0, none⟩) 2 xC)
  rw [← hw7] at J
  have K0 := Sd.mk J
  clear J
  have J := Tk.put K1.out HT.out (by decide) 2 (.slice (some ⟨xG, 0, none⟩) 2 xC)
  rw [← hw7] at J
  have K1 := Sd.mk J
  clear J
  have J := own_set Otb.out HT.out (by decide) 2 (.slice (some ⟨xG, 0, none⟩) 2 xC)
  rw [← hw7] at J
  have Otb := Sd.mk J
  clear J
  have J := Tk.put K2.out HT.out (by decide) 2 (.slice (some ⟨xG, 0, none⟩) 2 xC)
  rw [← hw7] at J
  have K2 := Sd.mk J
  clear J
  have J := own_set Ox.out HT.out (by decide) 2 (.slice (some ⟨xG, 0, none⟩) 2 xC)
  rw [← hw7] at J
  have Ox := Sd.mk J
  clear J
  have J := own_set Oy.out HT.out (by decide) 2 (.slice (some ⟨xG, 0, none⟩) 2 xC)
  rw [← hw7] at J
  have Oy := Sd.mk J
  clear J
  have B : Sd (Below w.heap.size w w7) := ⟨by rw [hw7]; exact B.out.setCell (p := ⟨w.heap.size + 1, 2, none⟩) (by show w.heap.size ≤ w.heap.size + 1; omega) _⟩
  have HT : Sd (w7.heap[w.heap.size + 1]? = some (.cells #[.slice (some ⟨taG, 0, none⟩) 2 taC, .slice (some ⟨tbG, 0, none⟩) 1 tbC, .slice (some ⟨xG, 0, none⟩) 2 xC, .slice none 0 0, .int .i64 0, .int .i64 0, .slice none 0 0, .slice none 0 0] 84 (0, 0))) := ⟨by rw [hw7]; exact (blk_set HT.out 2 _).trans rfl⟩
  obtain ⟨w8, hw8⟩ : ∃ z, z = w7.setCell ⟨w.heap.size + 1, 3, none⟩ (.slice (some ⟨yG, 0, none⟩) 1 yC) := ⟨_, rfl⟩
  have HR : Sd (w8.heap[w.heap.size]? = some (.cells #[.slice none 0 0, .slice none 0 0, .slice none 0 0, .slice none 0 0, .int .i64 0, .int .i64 0, .slice none 0 0, .slice none 0 0] 84 (0, 0))) := ⟨by rw [hw8]; exact blk_far HR.out (p := ⟨w.heap.size + 1, 3, none⟩) (by show w.heap.size ≠ w.heap.size + 1; omega) _⟩
  have J := own_set Ota.out HT.out (by decide) 3 (.slice (some ⟨yG, 0, none⟩) 1 yC)
  rw [← hw8] at J
  have Ota := Sd.mk J
  clear J
  have J := Tk.put K0.out HT.out (by decide) 3 (.slice (some ⟨yG, 0, none⟩) 1 yC)
  rw [← hw8] at J
  have K0 := Sd.mk J
  clear J
  have J := Tk.put K1.out HT.out (by decide) 3 (.slice (some ⟨yG, 0, none⟩) 1 yC)
  rw [← hw8] at J
  have K1 := Sd.mk J
  clear J
  have J := own_set Otb.out HT.out (by decide) 3 (.slice (some ⟨yG, 0, none⟩) 1 yC)
  rw [← hw8] at J
  have Otb := Sd.mk J
  clear J
  have J := Tk.put K2.out HT.out (by decide) 3 (.slice (some ⟨yG, 0, none⟩) 1 yC)
  rw [← hw8] at J
  have K2 := Sd.mk J
  clear J
  have J := own_set Ox.out HT.out (by decide) 3 (.slice (some ⟨yG, 0, none⟩) 1 yC)
  rw [← hw8] at J
  have Ox := Sd.mk J
  clear J
  have J := own_set Oy.out HT.out (by decide) 3 (.slice (some ⟨yG, 0, none⟩) 1 yC)
  rw [← hw8] at J
  have Oy := Sd.mk J
  clear J
  have B : Sd (Below w.heap.size w w8) := ⟨by rw [hw8]; exact B.out.setCell (p := ⟨w.heap.size + 1, 3, none⟩) (by show w.heap.size ≤ w.heap.size + 1; omega) _⟩
  have HT : Sd (w8.heap[w.heap.size + 1]? = some (.cells #[.slice (some ⟨taG, 0, none⟩) 2 taC, .slice (some ⟨tbG, 0, none⟩) 1 tbC, .slice (some ⟨xG, 0, none⟩) 2 xC, .slice (some ⟨yG, 0, none⟩) 1 yC, .int .i64 0, .int .i64 0, .slice none 0 0, .slice none 0 0] 84 (0, 0))) := ⟨by rw [hw8]; exact (blk_set HT.out 3 _).trans rfl⟩
  rw [← hw7, ← hw8]
  clear hw7 hw8
  refine (trim_of w8 xG yG xC yC ((own_cell Ox.out 0 (by decide)).trans rfl) ((own_cell Ox.out 1 (by decide)).trans rfl) ((own_cell Oy.out 0 (by decide)).trans rfl) (own_cap Ox.out) (own_cap Oy.out)).mono ?_
  rintro e w9 ⟨rfl, n9, hn⟩
  have hb : Below w8.heap.size w8 w9 := by rw [hn]; exact below_drewN' (Below.refl _ _) _
  clear hn
  have HR := Sd.mk (blk_below HR.out hb (blk_lt HR.out))
  have HT := Sd.mk (blk_below HT.out hb (blk_lt HT.out))
  have Ota := Sd.mk (own_below Ota.out hb)
  have K0 := Sd.mk (K0.out.below hb)
  have K1 := Sd.mk (K1.out.below hb)
  have Otb := Sd.mk (own_below Otb.out hb)
  have K2 := Sd.mk (K2.out.below hb)
  have Ox := Sd.mk (own_below Ox.out hb)
  have Oy := Sd.mk (own_below Oy.out hb)
  have B := Sd.mk (below_both B.out hb)
  clear hb
  have c2 : w9.cell? ⟨w.heap.size + 1, 2, none⟩ = some (.slice (some ⟨xG, 0, none⟩) 2 xC) := (blk_cell HT.out 2).trans rfl
  have f2 : w9.frozen? ⟨w.heap.size + 1, 2, none⟩ = false := blk_frozen HT.out 2
  have c3 : w9.cell? ⟨w.heap.size + 1, 3, none⟩ = some (.slice (some ⟨yG, 0, none⟩) 1 yC) := (blk_cell HT.out 3).trans rfl
  have f3 : w9.frozen? ⟨w.heap.size + 1, 3, none⟩ = false := blk_frozen HT.out 3
  have c4 : w9.cell? ⟨w.heap.size + 1, 4, none⟩ = some (.int .i64 0) := (blk_cell HT.out 4).trans rfl
  have f4 : w9.frozen? ⟨w.heap.size + 1, 4, none⟩ = false := blk_frozen HT.out 4
  have c5 : w9.cell? ⟨w.heap.size + 1, 5, none⟩ = some (.int .i64 0) := (blk_cell HT.out 5).trans rfl
  have f5 : w9.frozen? ⟨w.heap.size + 1, 5, none⟩ = false := blk_frozen HT.out 5
  go_wp2_with fail
  clear c2 f2 c3 f3 c4 f4 c5 f5
  obtain ⟨w10, hw10⟩ : ∃ z, z = w9.setCell ⟨w.heap.size + 1, 4, none⟩ (.int .i64 0) := ⟨_, rfl⟩
  have HR : Sd (w10.heap[w.heap.size]? = some (.cells #[.slice none 0 0, .slice none 0 0, .slice none 0 0, .slice none 0 0, .int .i64 0, .int .i64 0, .slice none 0 0, .slice none 0 0] 84 (0, 0))) := ⟨by rw [hw10]; exact blk_far HR.out (p := ⟨w.heap.size + 1, 4, none⟩) (by show w.heap.size ≠ w.heap.size + 1; omega) _⟩
  have J := own_set Ota.out HT.out (by decide) 4 (.int .i64 0)
  rw [← hw10] at J
  have Ota := Sd.mk J
  clear J
  have J := Tk.put K0.out HT.out (by decide) 4 (.int .i64 0)
  rw [← hw10] at J
  have K0 := Sd.mk J
  clear J
  have J := Tk.put K1.out HT.out (by decide) 4 (.int .i64 0)
  rw [← hw10] at J
  have K1 := Sd.mk J
  clear J
  have J := own_set Otb.out HT.out (by decide) 4 (.int .i64 0)
  rw [← hw10] at J
  have Otb := Sd.mk J
  clear J
  have J := Tk.put K2.out HT.out (by decide) 4 (.int .i64 0)
  rw [← hw10] at J
  have K2 := Sd.mk J
  clear J
  have J := own_set Ox.out HT.out (by decide) 4 (.int .i64 0)
  rw [← hw10] at J
  have Ox := Sd.mk J
  clear J
  have J := own_set Oy.out HT.out (by decide) 4 (.int .i64 0)
  rw [← hw10] at J
  have Oy := Sd.mk J
  clear J
  have B : Sd (Below w.heap.size w w10) := ⟨by rw [hw10]; exact B.out.setCell (p := ⟨w.heap.size + 1, 4, none⟩) (by show w.heap.size ≤ w.heap.size + 1; omega) _⟩
  have HT : Sd (w10.heap[w.heap.size + 1]? = some (.cells #[.slice (some ⟨taG, 0, none⟩) 2 taC, .slice (some ⟨tbG, 0, none⟩) 1 tbC, .slice (some ⟨xG, 0, none⟩) 2 xC, .slice (some ⟨yG, 0, none⟩) 1 yC, .int .i64 0, .int .i64 0, .slice none 0 0, .slice none 0 0] 84 (0, 0))) := ⟨by rw [hw10]; exact (blk_set HT.out 4 _).trans rfl⟩
  obtain ⟨w11, hw11⟩ : ∃ z, z = w10.setCell ⟨w.heap.size + 1, 5, none⟩ (.int .i64 1) := ⟨_, rfl⟩
  have HR : Sd (w11.heap[w.heap.size]? = some (.cells #[.slice none 0 0, .slice none 0 0, .slice none 0 0, .slice none 0 0, .int .i64 0, .int .i64 0, .slice none 0 0, .slice none 0 0] 84 (0, 0))) := ⟨by rw [hw11]; exact blk_far HR.out (p := ⟨w.heap.size + 1, 5, none⟩) (by show w.heap.size ≠ w.heap.size + 1; omega) _⟩
  have J := own_set Ota.out HT.out (by decide) 5 (.int .i64 1)
  rw [← hw11] at J
  have Ota := Sd.mk J
  clear J
  have J := Tk.put K0.out HT.out (by decide) 5 (.int .i64 1)
  rw [← hw11] at J
  have K0 := Sd.mk J
  clear J
  have J := Tk.put K1.out HT.out (by decide) 5 (.int .i64 1)
  rw [← hw11] at J
  have K1 := Sd.mk J
  clear J
  have J := own_set Otb.out HT.out (by decide) 5 (.int .i64 1)
  rw [← hw11] at J
  have Otb := Sd.mk J
  clear J
  have J := Tk.put K2.out HT.out (by decide) 5 (.int .i64 1)
  rw [← hw11] at J
  have K2 := Sd.mk J
  clear J
  have J := own_set Ox.out HT.out (by decide) 5 (.int .i64 1)
  rw [← hw11] at J
  have Ox := Sd.mk J
  clear J
  have J := own_set Oy.out HT.out (by decide) 5 (.int .i64 1)
  rw [← hw11] at J
  have Oy := Sd.mk J
  clear J
  have B : Sd (Below w.heap.size w w11) := ⟨by rw [hw11]; exact B.out.setCell (p := ⟨w.heap.size + 1, 5, none⟩) (by show w.heap.size ≤ w.heap.size + 1; omega) _⟩
  have HT : Sd (w11.heap[w.heap.size + 1]? = some (.cells #[.slice (some ⟨taG, 0, none⟩) 2 taC, .slice (some ⟨tbG, 0, none⟩) 1 tbC, .slice (some ⟨xG, 0, none⟩) 2 xC, .slice (some ⟨yG, 0, none⟩) 1 yC, .int .i64 0, .int .i64 1, .slice none 0 0, .slice none 0 0] 84 (0, 0))) := ⟨by rw [hw11]; exact (blk_set HT.out 5 _).trans rfl⟩
  rw [← hw10, ← hw11]
  clear hw10 hw11
  refine (trim_mid w11 xG yG xC yC ((own_cell Ox.out 0 (by decide)).trans rfl) ((own_cell Ox.out 1 (by decide)).trans rfl) ((own_cell Oy.out 0 (by decide)).trans rfl) (own_cap Ox.out) (own_cap Oy.out)).mono ?_
  rintro e w12 ⟨u, v, rfl, ho, ho2, hb⟩
  have HR := Sd.mk (blk_below HR.out hb (blk_lt HR.out))
  have HT := Sd.mk (blk_below HT.out hb (blk_lt HT.out))
  have Ota := Sd.mk (own_below Ota.out hb)
  have K0 := Sd.mk (K0.out.below hb)
  have K1 := Sd.mk (K1.out.below hb)
  have Otb := Sd.mk (own_below Otb.out hb)
  have K2 := Sd.mk (K2.out.below hb)
  have Ox := Sd.mk (own_below Ox.out hb)
  have Oy := Sd.mk (own_below Oy.out hb)
  have Ou := Sd.mk (own_less ho B.out.size)
  have Ov := Sd.mk (own_less ho2 B.out.size)
  have B := Sd.mk (below_both B.out hb)
  clear ho ho2 hb
  obtain ⟨uG, uC, rfl⟩ := own_form Ou.out (by decide)
  obtain ⟨vA, vC, rfl⟩ := own_slice Ov.out
  have c0 : w12.cell? ⟨w.heap.size + 1, 0, none⟩ = some (.slice (some ⟨taG, 0, none⟩) 2 taC) := (blk_cell HT.out 0).trans rfl
  have f0 : w12.frozen? ⟨w.heap.size + 1, 0, none⟩ = false := blk_frozen HT.out 0
  have c1 : w12.cell? ⟨w.heap.size + 1, 1, none⟩ = some (.slice (some ⟨tbG, 0, none⟩) 1 tbC) := (blk_cell HT.out 1).trans rfl
  have f1 : w12.frozen? ⟨w.heap.size + 1, 1, none⟩ = false := blk_frozen HT.out 1
  have c2 : w12.cell? ⟨w.heap.size + 1, 2, none⟩ = some (.slice (some ⟨xG, 0, none⟩) 2 xC) := (blk_cell HT.out 2).trans rfl
  have f2 : w12.frozen? ⟨w.heap.size + 1, 2, none⟩ = false := blk_frozen HT.out 2
  have c3 : w12.cell? ⟨w.heap.size + 1, 3, none⟩ = some (.slice (some ⟨yG, 0, none⟩) 1 yC) := (blk_cell HT.out 3).trans rfl
  have f3 : w12.frozen? ⟨w.heap.size + 1, 3, none⟩ = false := blk_frozen HT.out 3
  have c4 : w12.cell? ⟨w.heap.size + 1, 4, none⟩ = some (.int .i64 0) := (blk_cell HT.out 4).trans rfl
  have f4 : w12.frozen? ⟨w.heap.size + 1, 4, none⟩ = false := blk_frozen HT.out 4
  have c5 : w12.cell? ⟨w.heap.size + 1, 5, none⟩ = some (.int .i64 1) := (blk_cell HT.out 5).trans rfl
  have f5 : w12.frozen? ⟨w.heap.size + 1, 5, none⟩ = false := blk_frozen HT.out 5
  have c6 : w12.cell? ⟨w.heap.size + 1, 6, none⟩ = some (.slice none 0 0) := (blk_cell HT.out 6).trans rfl
  have f6 : w12.frozen? ⟨w.heap.size + 1, 6, none⟩ = false := blk_frozen HT.out 6
  have c7 : w12.cell? ⟨w.heap.size + 1, 7, none⟩ = some (.slice none 0 0) := (blk_cell HT.out 7).trans rfl
  have f7 : w12.frozen? ⟨w.heap.size + 1, 7, none⟩ = false := blk_frozen HT.out 7
  have d0 : w12.cell? ⟨w.heap.size, 0, none⟩ = some (.slice none 0 0) := (blk_cell HR.out 0).trans rfl
  have r0 : w12.frozen? ⟨w.heap.size, 0, none⟩ = false := blk_frozen HR.out 0
  have d1 : w12.cell? ⟨w.heap.size, 1, none⟩ = some (.slice none 0 0) := (blk_cell HR.out 1).trans rfl
  have r1 : w12.frozen? ⟨w.heap.size, 1, none⟩ = false := blk_frozen HR.out 1
  have d2 : w12.cell? ⟨w.heap.size, 2, none⟩ = some (.slice none 0 0) := (blk_cell HR.out 2).trans rfl
  have r2 : w12.frozen? ⟨w.heap.size, 2, none⟩ = false := blk_frozen HR.out 2
  have d3 : w12.cell? ⟨w.heap.size, 3, none⟩ = some (.slice none 0 0) := (blk_cell HR.out 3).trans rfl
  have r3 : w12.frozen? ⟨w.heap.size, 3, none⟩ = false := blk_frozen HR.out 3
  have d4 : w12.cell? ⟨w.heap.size, 4, none⟩ = some (.int .i64 0) := (blk_cell HR.out 4).trans rfl
  have r4 : w12.frozen? ⟨w.heap.size, 4, none⟩ = false := blk_frozen HR.out 4
  have d5 : w12.cell? ⟨w.heap.size, 5, none⟩ = some (.int .i64 0) := (blk_cell HR.out 5).trans rfl
  have r5 : w12.frozen? ⟨w.heap.size, 5, none⟩ = false := blk_frozen HR.out 5
  have d6 : w12.cell? ⟨w.heap.size, 6, none⟩ = some (.slice none 0 0) := (blk_cell HR.out 6).trans rfl
  have r6 : w12.frozen? ⟨w.heap.size, 6, none⟩ = false := blk_frozen HR.out 6
  have d7 : w12.cell? ⟨w.heap.size, 7, none⟩ = some (.slice none 0 0) := (blk_cell HR.out 7).trans rfl
  have r7 : w12.frozen? ⟨w.heap.size, 7, none⟩ = false := blk_frozen HR.out 7
  go_wp2_with fail
  clear c0 f0 d0 r0
  clear c1 f1 d1 r1
  clear c2 f2 d2 r2
  clear c3 f3 d3 r3
  clear c4 f4 d4 r4
  clear c5 f5 d5 r5
  clear c6 f6 d6 r6
  clear c7 f7 d7 r7
  obtain ⟨w13, hw13⟩ : ∃ z, z = w12.setCell ⟨w.heap.size + 1, 6, none⟩ (.slice (some ⟨uG, 0, none⟩) 1 uC) := ⟨_, rfl⟩
  have HR : Sd (w13.heap[w.heap.size]? = some (.cells #[.slice none 0 0, .slice none 0 0, .slice none 0 0, .slice none 0 0, .int .i64 0, .int .i64 0, .slice none 0 0, .slice none 0 0] 84 (0, 0))) := ⟨by rw [hw13]; exact blk_far HR.out (p := ⟨w.heap.size + 1, 6, none⟩) (by show w.heap.size ≠ w.heap.size + 1; omega) _⟩
  have J := own_set Ota.out HT.out (by decide) 6 (.slice (some ⟨uG, 0, none⟩) 1 uC)
  rw [← hw13] at J
  have Ota := Sd.mk J
  clear J
  have J := Tk.put K0.out HT.out (by decide) 6 (.slice (some ⟨uG, 0, none⟩) 1 uC)
  rw [← hw13] at J
  have K0 := Sd.mk J
  clear J
  have J := Tk.put K1.out HT.out (by decide) 6 (.slice (some ⟨uG, 0, none⟩) 1 uC)
  rw [← hw13] at J
  have K1 := Sd.mk J
  clear J
  have J := own_set Otb.out HT.out (by decide) 6 (.slice (some ⟨uG, 0, none⟩) 1 uC)
  rw [← hw13] at J
  have Otb := Sd.mk J
  clear J
  have J := Tk.put K2.out HT.out (by decide) 6 (.slice (some ⟨uG, 0, none⟩) 1 uC)
  rw [← hw13] at J
  have K2 := Sd.mk J
  clear J
  have J := own_set Ox.out HT.out (by decide) 6 (.slice (some ⟨uG, 0, none⟩) 1 uC)
  rw [← hw13] at J
  have Ox := Sd.mk J
  clear J
  have J := own_set Oy.out HT.out (by decide) 6 (.slice (some ⟨uG, 0, none⟩) 1 uC)
  rw [← hw13] at J
  have Oy := Sd.mk J
  clear J
  have J := own_set Ou.out HT.out (by decide) 6 (.slice (some ⟨uG, 0, none⟩) 1 uC)
  rw [← hw13] at J
  have Ou := Sd.mk J
  clear J
  have J := own_set Ov.out HT.out (by decide) 6 (.slice (some ⟨uG, 0, none⟩) 1 uC)
  rw [← hw13] at J
  have Ov := Sd.mk J
  clear J
  have B : Sd (Below w.heap.size w w13) := ⟨by rw [hw13]; exact B.out.setCell (p := ⟨w.heap.size + 1, 6, none⟩) (by show w.heap.size ≤ w.heap.size + 1; omega) _⟩
  have HT : Sd (w13.heap[w.heap.size + 1]? = some (.cells #[.slice (some ⟨taG, 0, none⟩) 2 taC, .slice (some ⟨tbG, 0, none⟩) 1 tbC, .slice (some ⟨xG, 0, none⟩) 2 xC, .slice (some ⟨yG, 0, none⟩) 1 yC, .int .i64 0, .int .i64 1, .slice (some ⟨uG, 0, none⟩) 1 uC, .slice none 0 0] 84 (0, 0))) := ⟨by rw [hw13]; exact (blk_set HT.out 6 _).trans rfl⟩
  obtain ⟨w14, hw14⟩ : ∃ z, z = w13.setCell ⟨w.heap.size + 1, 7, none⟩ (.slice vA 0 vC) := ⟨_, rfl⟩
  have HR : Sd (w14.heap[w.heap.size]? = some (.cells #[.slice none 0 0, .slice none 0 0, .slice none 0 0, .slice none 0 0, .int .i64 0, .int .i64 0, .slice none 0 0, .slice none 0 0] 84 (0, 0))) := ⟨by rw [hw14]; exact blk_far HR.out (p := ⟨w.heap.size + 1, 7, none⟩) (by show w.heap.size ≠ w.heap.size + 1; omega) _⟩
  have J := own_set Ota.out HT.out (by decide) 7 (.slice vA 0 vC)
  rw [← hw14] at J
  have Ota := Sd.mk J
  clear J
  have J := Tk.put K0.out HT.out (by decide) 7 (.slice vA 0 vC)
  rw [← hw14] at J
  have K0 := Sd.mk J
  clear J
  have J := Tk.put K1.out HT.out (by decide) 7 (.slice vA 0 vC)
  rw [← hw14] at J
  have K1 := Sd.mk J
  clear J
  have J := own_set Otb.out HT.out (by decide) 7 (.slice vA 0 vC)
  rw [← hw14] at J
  have Otb := Sd.mk J
  clear J
  have J := Tk.put K2.out HT.out (by decide) 7 (.slice vA 0 vC)
  rw [← hw14] at J
  have K2 := Sd.mk J
  clear J
  have J := own_set Ox.out HT.out (by decide) 7 (.slice vA 0 vC)
  rw [← hw14] at J
  have Ox := Sd.mk J
  clear J
  have J := own_set Oy.out HT.out (by decide) 7 (.slice vA 0 vC)
  rw [← hw14] at J
  have Oy := Sd.mk J
  clear J
  have J := own_set Ou.out HT.out (by decide) 7 (.slice vA 0 vC)
  rw [← hw14] at J
  have Ou := Sd.mk J
  clear J
  have J := own_set Ov.out HT.out (by decide) 7 (.slice vA 0 vC)
  rw [← hw14] at J
  have Ov := Sd.mk J
  clear J
  have B : Sd (Below w.heap.size w w14) := ⟨by rw [hw14]; exact B.out.setCell (p := ⟨w.heap.size + 1, 7, none⟩) (by show w.heap.size ≤ w.heap.size + 1; omega) _⟩
  have HT : Sd (w14.heap[w.heap.size + 1]? = some (.cells #[.slice (some ⟨taG, 0, none⟩) 2 taC, .slice (some ⟨tbG, 0, none⟩) 1 tbC, .slice (some ⟨xG, 0, none⟩) 2 xC, .slice (some ⟨yG, 0, none⟩) 1 yC, .int .i64 0, .int .i64 1, .slice (some ⟨uG, 0, none⟩) 1 uC, .slice vA 0 vC] 84 (0, 0))) := ⟨by rw [hw14]; exact (blk_set HT.out 7 _).trans rfl⟩
  obtain ⟨w15, hw15⟩ : ∃ z, z = w14.setCell ⟨w.heap.size, 0, none⟩ (.slice (some ⟨taG, 0, none⟩) 2 taC) := ⟨_, rfl⟩
  have J := own_set Ota.out HR.out (by decide) 0 (.slice (some ⟨taG, 0, none⟩) 2 taC)
  rw [← hw15] at J
  have Ota := Sd.mk J
  clear J
  have J := Tk.put K0.out HR.out (by decide) 0 (.slice (some ⟨taG, 0, none⟩) 2 taC)
  rw [← hw15] at J
  have K0 := Sd.mk J
  clear J
  have J := Tk.put K1.out HR.out (by decide) 0 (.slice (some ⟨taG, 0, none⟩) 2 taC)
  rw [← hw15] at J
  have K1 := Sd.mk J
  clear J
  have J := own_set Otb.out HR.out (by decide) 0 (.slice (some ⟨taG, 0, none⟩) 2 taC)
  rw [← hw15] at J
  have Otb := Sd.mk J
  clear J
  have J := Tk.put K2.out HR.out (by decide) 0 (.slice (some ⟨taG, 0, none⟩) 2 taC)
  rw [← hw15] at J
  have K2 := Sd.mk J
  clear J
  have J := own_set Ox.out HR.out (by decide) 0 (.slice (some ⟨taG, 0, none⟩) 2 taC)
  rw [← hw15] at J
  have Ox := Sd.mk J
  clear J
  have J := own_set Oy.out HR.out (by decide) 0 (.slice (some ⟨taG, 0, none⟩) 2 taC)
  rw [← hw15] at J
  have Oy := Sd.mk J
  clear J
  have J := own_set Ou.out HR.out (by decide) 0 (.slice (some ⟨taG, 0, none⟩) 2 taC)
  rw [← hw15] at J
  have Ou := Sd.mk J
  clear J
  have J := own_set Ov.out HR.out (by decide) 0 (.slice (some ⟨taG, 0, none⟩) 2 taC)
  rw [← hw15] at J
  have Ov := Sd.mk J
  clear J
  have B : Sd (Below w.heap.size w w15) := ⟨by rw [hw15]; exact B.out.setCell (p := ⟨w.heap.size, 0, none⟩) (Nat.le_refl _) _⟩
  have HR : Sd (w15.heap[w.heap.size]? = some (.cells #[.slice (some ⟨taG, 0, none⟩) 2 taC, .slice none 0 0, .slice none 0 0, .slice none 0 0, .int .i64 0, .int .i64 0, .slice none 0 0, .slice none 0 0] 84 (0, 0))) := ⟨by rw [hw15]; exact (blk_set HR.out 0 _).trans rfl⟩
  obtain ⟨w16, hw16⟩ : ∃ z, z = w15.setCell ⟨w.heap.size, 1, none⟩ (.slice (some ⟨tbG, 0, none⟩) 1 tbC) := ⟨_, rfl⟩
  have J := own_set Ota.out HR.out (by decide) 1 (.slice (some ⟨tbG, 0, none⟩) 1 tbC)
  rw [← hw16] at J
  have Ota := Sd.mk J
  clear J
  have J := Tk.put K0.out HR.out (by decide) 1 (.slice (some ⟨tbG, 0, none⟩) 1 tbC)
  rw [← hw16] at J
  have K0 := Sd.mk J
  clear J
  have J := Tk.put K1.out HR.out (by decide) 1 (.slice (some ⟨tbG, 0, none⟩) 1 tbC)
  rw [← hw16] at J
  have K1 := Sd.mk J
  clear J
  have J := own_set Otb.out HR.out (by decide) 1 (.slice (some ⟨tbG, 0, none⟩) 1 tbC)
  rw [← hw16] at J
  have Otb := Sd.mk J
  clear J
  have J := Tk.put K2.out HR.out (by decide) 1 (.slice (some ⟨tbG, 0, none⟩) 1 tbC)
  rw [← hw16] at J
  have K2 := Sd.mk J
  clear J
  have J := own_set Ox.out HR.out (by decide) 1 (.slice (some ⟨tbG, 0, none⟩) 1 tbC)
  rw [← hw16] at J
  have Ox := Sd.mk J
  clear J
  have J := own_set Oy.out HR.out (by decide) 1 (.slice (some ⟨tbG, 0, none⟩) 1 tbC)
  rw [← hw16] at J
  have Oy := Sd.mk J
  clear J
  have J := own_set Ou.out HR.out (by decide) 1 (.slice (some ⟨tbG, 0, none⟩) 1 tbC)
  rw [← hw16] at J
  have Ou := Sd.mk J
  clear J
  have J := own_set Ov.out HR.out (by decide) 1 (.slice (some ⟨tbG, 0, none⟩) 1 tbC)
  rw [← hw16] at J
  have Ov := Sd.mk J
  clear J
  have B : Sd (Below w.heap.size w w16) := ⟨by rw [hw16]; exact B.out.setCell (p := ⟨w.heap.size, 1, none⟩) (Nat.le_refl _) _⟩
  have HR : Sd (w16.heap[w.heap.size]? = some (.cells #[.slice (some ⟨taG, 0, none⟩) 2 taC, .slice (some ⟨tbG, 0, none⟩) 1 tbC, .slice none 0 0, .slice none 0 0, .int .i64 0, .int .i64 0, .slice none 0 0, .slice none 0 0] 84 (0, 0))) := ⟨by rw [hw16]; exact (blk_set HR.out 1 _).trans rfl⟩
  obtain ⟨w17, hw17⟩ : ∃ z, z = w16.setCell ⟨w.heap.size, 2, none⟩ (.slice (some ⟨xG, 0, none⟩) 2 xC) := ⟨_, rfl⟩
  have J := own_set Ota.out HR.out (by decide) 2 (.slice (some ⟨xG, 0, none⟩) 2 xC)
  rw [← hw17] at J
  have Ota := Sd.mk J
  clear J
  have J := Tk.put K0.out HR.out (by decide) 2 (.slice (some ⟨xG, 0, none⟩) 2 xC)
  rw [← hw17] at J
  have K0 := Sd.mk J
  clear J
  have J := Tk.put K1.out HR.out (by decide) 2 (.slice (some ⟨xG, 0, none⟩) 2 xC)
  rw [← hw17] at J
  have K1 := Sd.mk J
  clear J
  have J := own_set Otb.out HR.out (by decide) 2 (.slice (some ⟨xG, 0, none⟩) 2 xC)
  rw [← hw17] at J
  have Otb := Sd.mk J
  clear J
  have J := Tk.put K2.out HR.out (by decide) 2 (.slice (some ⟨xG, 0, none⟩) 2 xC)
  rw [← hw17] at J
  have K2 := Sd.mk J
  clear J
  have J := own_set Ox.out HR.out (by decide) 2 (.slice (some ⟨xG, 0, none⟩) 2 xC)
  rw [← hw17] at J
  have Ox := Sd.mk J
  clear J
  have J := own_set Oy.out HR.out (by decide) 2 (.slice (some ⟨xG, 0, none⟩) 2 xC)
  rw [← hw17] at J
  have Oy := Sd.mk J
  clear J
  have J := own_set Ou.out HR.out (by decide) 2 (.slice (some ⟨xG, 0, none⟩) 2 xC)
  rw [← hw17] at J
  have Ou := Sd.mk J
  clear J
  have J := own_set Ov.out HR.out (by decide) 2 (.slice (some ⟨xG, 0, none⟩) 2 xC)
  rw [← hw17] at J
  have Ov := Sd.mk J
  clear J
  have B : Sd (Below w.heap.size w w17) := ⟨by rw [hw17]; exact B.out.setCell (p := ⟨w.heap.size, 2, none⟩) (Nat.le_refl _) _⟩
  have HR : Sd (w17.heap[w.heap.size]? = some (.cells #[.slice (some ⟨taG, 0, none⟩) 2 taC, .slice (some ⟨tbG, 0, none⟩) 1 tbC, .slice (some ⟨xG, 0, none⟩) 2 xC, .slice none 0 0, .int .i64 0, .int .i64 0, .slice none 0 0, .slice none 0 0] 84 (0, 0))) := ⟨by rw [hw17]; exact (blk_set HR.out 2 _).trans rfl⟩
  obtain ⟨w18, hw18⟩ : ∃ z, z = w17.setCell ⟨w.heap.size, 3, none⟩ (.slice (some ⟨yG, 0, none⟩) 1 yC) := ⟨_, rfl⟩
  have J := own_set Ota.out HR.out (by decide) 3 (.slice (some ⟨yG, 0, none⟩) 1 yC)
  rw [← hw18] at J
  have Ota := Sd.mk J
  clear J
  have J := Tk.put K0.out HR.out (by decide) 3 (.slice (some ⟨yG, 0, none⟩) 1 yC)
  rw [← hw18] at J
  have K0 := Sd.mk J
  clear J
  have J := Tk.put K1.out HR.out (by decide) 3 (.slice (some ⟨yG, 0, none⟩) 1 yC)
  rw [← hw18] at J
  have K1 := Sd.mk J
  clear J
  have J := own_set Otb.out HR.out (by decide) 3 (.slice (some ⟨yG, 0, none⟩) 1 yC)
  rw [← hw18] at J
  have Otb := Sd.mk J
  clear J
  have J := Tk.put K2.out HR.out (by decide) 3 (.slice (some ⟨yG, 0, none⟩) 1 yC)
  rw [← hw18] at J
  have K2 := Sd.mk J
  clear J
  have J := own_set Ox.out HR.out (by decide) 3 (.slice (some ⟨yG, 0, none⟩) 1 yC)
  rw [← hw18] at J
  have Ox := Sd.mk J
  clear J
  have J := own_set Oy.out HR.out (by decide) 3 (.slice (some ⟨yG, 0, none⟩) 1 yC)
  rw [← hw18] at J
  have Oy := Sd.mk J
  clear J
  have J := own_set Ou.out HR.out (by decide) 3 (.slice (some ⟨yG, 0, none⟩) 1 yC)
  rw [← hw18] at J
  have Ou := Sd.mk J
  clear J
  have J := own_set Ov.out HR.out (by decide) 3 (.slice (some ⟨yG, 0, none⟩) 1 yC)
  rw [← hw18] at J
  have Ov := Sd.mk J
  clear J
  have B : Sd (Below w.heap.size w w18) := ⟨by rw [hw18]; exact B.out.setCell (p := ⟨w.heap.size, 3, none⟩) (Nat.le_refl _) _⟩
  have HR : Sd (w18.heap[w.heap.size]? = some (.cells #[.slice (some ⟨taG, 0, none⟩) 2 taC, .slice (some ⟨tbG, 0, none⟩) 1 tbC, .slice (some ⟨xG, 0, none⟩) 2 xC, .slice (some ⟨yG, 0, none⟩) 1 yC, .int .i64 0, .int .i64 0, .slice none 0 0, .slice none 0 0] 84 (0, 0))) := ⟨by rw [hw18]; exact (blk_set HR.out 3 _).trans rfl⟩
  obtain ⟨w19, hw19⟩ : ∃ z, z = w18.setCell ⟨w.heap.size, 4, none⟩ (.int .i64 0) := ⟨_, rfl⟩
  have J := own_set Ota.out HR.out (by decide) 4 (.int .i64 0)
  rw [← hw19] at J
  have Ota := Sd.mk J
  clear J
  have J := Tk.put K0.out HR.out (by decide) 4 (.int .i64 0)
  rw [← hw19] at J
  have K0 := Sd.mk J
  clear J
  have J := Tk.put K1.out HR.out (by decide) 4 (.int .i64 0)
  rw [← hw19] at J
  have K1 := Sd.mk J
  clear J
  have J := own_set Otb.out HR.out (by decide) 4 (.int .i64 0)
  rw [← hw19] at J
  have Otb := Sd.mk J
  clear J
  have J := Tk.put K2.out HR.out (by decide) 4 (.int .i64 0)
  rw [← hw19] at J
  have K2 := Sd.mk J
  clear J
  have J := own_set Ox.out HR.out (by decide) 4 (.int .i64 0)
  rw [← hw19] at J
  have Ox := Sd.mk J
  clear J
  have J := own_set Oy.out HR.out (by decide) 4 (.int .i64 0)
  rw [← hw19] at J
  have Oy := Sd.mk J
  clear J
  have J := own_set Ou.out HR.out (by decide) 4 (.int .i64 0)
  rw [← hw19] at J
  have Ou := Sd.mk J
  clear J
  have J := own_set Ov.out HR.out (by decide) 4 (.int .i64 0)
  rw [← hw19] at J
  have Ov := Sd.mk J
  clear J
  have B : Sd (Below w.heap.size w w19) := ⟨by rw [hw19]; exact B.out.setCell (p := ⟨w.heap.size, 4, none⟩) (Nat.le_refl _) _⟩
  have HR : Sd (w19.heap[w.heap.size]? = some (.cells #[.slice (some ⟨taG, 0, none⟩) 2 taC, .slice (some ⟨tbG, 0, none⟩) 1 tbC, .slice (some ⟨xG, 0, none⟩) 2 xC, .slice (some ⟨yG, 0, none⟩) 1 yC, .int .i64 0, .int .i64 0, .slice none 0 0, .slice none 0 0] 84 (0, 0))) := ⟨by rw [hw19]; exact (blk_set HR.out 4 _).trans rfl⟩
  obtain ⟨w20, hw20⟩ : ∃ z, z = w19.setCell ⟨w.heap.size, 5, none⟩ (.int .i64 1) := ⟨_, rfl⟩
  have J := own_set Ota.out HR.out (by decide) 5 (.int .i64 1)
  rw [← hw20] at J
  have Ota := Sd.mk J
  clear J
  have J := Tk.put K0.out HR.out (by decide) 5 (.int .i64 1)
  rw [← hw20] at J
  have K0 := Sd.mk J
  clear J
  have J := Tk.put K1.out HR.out (by decide) 5 (.int .i64 1)
  rw [← hw20] at J
  have K1 := Sd.mk J
  clear J
  have J := own_set Otb.out HR.out (by decide) 5 (.int .i64 1)
  rw [← hw20] at J
  have Otb := Sd.mk J
  clear J
  have J := Tk.put K2.out HR.out (by decide) 5 (.int .i64 1)
  rw [← hw20] at J
  have K2 := Sd.mk J
  clear J
  have J := own_set Ox.out HR.out (by decide) 5 (.int .i64 1)
  rw [← hw20] at J
  have Ox := Sd.mk J
  clear J
  have J := own_set Oy.out HR.out (by decide) 5 (.int .i64 1)
  rw [← hw20] at J
  have Oy := Sd.mk J
  clear J
  have J := own_set Ou.out HR.out (by decide) 5 (.int .i64 1)
  rw [← hw20] at J
  have Ou := Sd.mk J
  clear J
  have J := own_set Ov.out HR.out (by decide) 5 (.int .i64 1)
  rw [← hw20] at J
  have Ov := Sd.mk J
  clear J
  have B : Sd (Below w.heap.size w w20) := ⟨by rw [hw20]; exact B.out.setCell (p := ⟨w.heap.size, 5, none⟩) (Nat.le_refl _) _⟩
  have HR : Sd (w20.heap[w.heap.size]? = some (.cells #[.slice (some ⟨taG, 0, none⟩) 2 taC, .slice (some ⟨tbG, 0, none⟩) 1 tbC, .slice (some ⟨xG, 0, none⟩) 2 xC, .slice (some ⟨yG, 0, none⟩) 1 yC, .int .i64 0, .int .i64 1, .slice none 0 0, .slice none 0 0] 84 (0, 0))) := ⟨by rw [hw20]; exact (blk_set HR.out 5 _).trans rfl⟩
  obtain ⟨w21, hw21⟩ : ∃ z, z = w20.setCell ⟨w.heap.size, 6, none⟩ (.slice (some ⟨uG, 0, none⟩) 1 uC) := ⟨_, rfl⟩
  have J := own_set Ota.out HR.out (by decide) 6 (.slice (some ⟨uG, 0, none⟩) 1 uC)
  rw [← hw21] at J
  have Ota := Sd.mk J
  clear J
  have J := Tk.put K0.out HR.out (by decide) 6 (.slice (some ⟨uG, 0, none⟩) 1 uC)
  rw [← hw21] at J
  have K0 := Sd.mk J
  clear J
  have J := Tk.put K1.out HR.out (by decide) 6 (.slice (some ⟨uG, 0, none⟩) 1 uC)
  rw [← hw21] at J
  have K1 := Sd.mk J
  clear J
  have J := own_set Otb.out HR.out (by decide) 6 (.slice (some ⟨uG, 0, none⟩) 1 uC)
  rw [← hw21] at J
  have Otb := Sd.mk J
  clear J
  have J := Tk.put K2.out HR.out (by decide) 6 (.slice (some ⟨uG, 0, none⟩) 1 uC)
  rw [← hw21] at J
  have K2 := Sd.mk J
  clear J
  have J := own_set Ox.out HR.out (by decide) 6 (.slice (some ⟨uG, 0, none⟩) 1 uC)
  rw [← hw21] at J
  have Ox := Sd.mk J
  clear J
  have J := own_set Oy.out HR.out (by decide) 6 (.slice (some ⟨uG, 0, none⟩) 1 uC)
  rw [← hw21] at J
  have Oy := Sd.mk J
  clear J
  have J := own_set Ou.out HR.out (by decide) 6 (.slice (some ⟨uG, 0, none⟩) 1 uC)
  rw [← hw21] at J
  have Ou := Sd.mk J
  clear J
  have J := own_set Ov.out HR.out (by decide) 6 (.slice (some ⟨uG, 0, none⟩) 1 uC)
  rw [← hw21] at J
  have Ov := Sd.mk J
  clear J
  have B : Sd (Below w.heap.size w w21) := ⟨by rw [hw21]; exact B.out.setCell (p := ⟨w.heap.size, 6, none⟩) (Nat.le_refl _) _⟩
  have HR : Sd (w21.heap[w.heap.size]? = some (.cells #[.slice (some ⟨taG, 0, none⟩) 2 taC, .slice (some ⟨tbG, 0, none⟩) 1 tbC, .slice (some ⟨xG, 0, none⟩) 2 xC, .slice (some ⟨yG, 0, none⟩) 1 yC, .int .i64 0, .int .i64 1, .slice (some ⟨uG, 0, none⟩) 1 uC, .slice none 0 0] 84 (0, 0))) := ⟨by rw [hw21]; exact (blk_set HR.out 6 _).trans rfl⟩
  obtain ⟨w22, hw22⟩ : ∃ z, z = w21.setCell ⟨w.heap.size, 7, none⟩ (.slice vA 0 vC) := ⟨_, rfl⟩
  have J := own_set Ota.out HR.out (by decide) 7 (.slice vA 0 vC)
  rw [← hw22] at J
  have Ota := Sd.mk J
  clear J
  have J := Tk.put K0.out HR.out (by decide) 7 (.slice vA 0 vC)
  rw [← hw22] at J
  have K0 := Sd.mk J
  clear J
  have J := Tk.put K1.out HR.out (by decide) 7 (.slice vA 0 vC)
  rw [← hw22] at J
  have K1 := Sd.mk J
  clear J
  have J := own_set Otb.out HR.out (by decide) 7 (.slice vA 0 vC)
  rw [← hw22] at J
  have Otb := Sd.mk J
  clear J
  have J := Tk.put K2.out HR.out (by decide) 7 (.slice vA 0 vC)
  rw [← hw22] at J
  have K2 := Sd.mk J
  clear J
  have J := own_set Ox.out HR.out (by decide) 7 (.slice vA 0 vC)
  rw [← hw22] at J
  have Ox := Sd.mk J
  clear J
  have J := own_set Oy.out HR.out (by decide) 7 (.slice vA 0 vC)
  rw [← hw22] at J
  have Oy := Sd.mk J
  clear J
  have J := own_set Ou.out HR.out (by decide) 7 (.slice vA 0 vC)
  rw [← hw22] at J
  have Ou := Sd.mk J
  clear J
  have J := own_set Ov.out HR.out (by decide) 7 (.slice vA 0 vC)
  rw [← hw22] at J
  have Ov := Sd.mk J
  clear J
  have B : Sd (Below w.heap.size w w22) := ⟨by rw [hw22]; exact B.out.setCell (p := ⟨w.heap.size, 7, none⟩) (Nat.le_refl _) _⟩
  have HR : Sd (w22.heap[w.heap.size]? = some (.cells #[.slice (some ⟨taG, 0, none⟩) 2 taC, .slice (some ⟨tbG, 0, none⟩) 1 tbC, .slice (some ⟨xG, 0, none⟩) 2 xC, .slice (some ⟨yG, 0, none⟩) 1 yC, .int .i64 0, .int .i64 1, .slice (some ⟨uG, 0, none⟩) 1 uC, .slice vA 0 vC] 84 (0, 0))) := ⟨by rw [hw22]; exact (blk_set HR.out 7 _).trans rfl⟩
  rw [← hw13, ← hw14, ← hw15, ← hw16, ← hw17, ← hw18, ← hw19, ← hw20, ← hw21, ← hw22]
  clear hw13 hw14 hw15 hw16 hw17 hw18 hw19 hw20 hw21 hw22
  have d0 : w22.cell? ⟨w.heap.size, 0, none⟩ = some (.slice (some ⟨taG, 0, none⟩) 2 taC) := (blk_cell HR.out 0).trans rfl
  have d1 : w22.cell? ⟨w.heap.size, 1, none⟩ = some (.slice (some ⟨tbG, 0, none⟩) 1 tbC) := (blk_cell HR.out 1).trans rfl
  have d2 : w22.cell? ⟨w.heap.size, 2, none⟩ = some (.slice (some ⟨xG, 0, none⟩) 2 xC) := (blk_cell HR.out 2).trans rfl
  have d3 : w22.cell? ⟨w.heap.size, 3, none⟩ = some (.slice (some ⟨yG, 0, none⟩) 1 yC) := (blk_cell HR.out 3).trans rfl
  have d4 : w22.cell? ⟨w.heap.size, 4, none⟩ = some (.int .i64 0) := (blk_cell HR.out 4).trans rfl
  have d5 : w22.cell? ⟨w.heap.size, 5, none⟩ = some (.int .i64 1) := (blk_cell HR.out 5).trans rfl
  have d6 : w22.cell? ⟨w.heap.size, 6, none⟩ = some (.slice (some ⟨uG, 0, none⟩) 1 uC) := (blk_cell HR.out 6).trans rfl
  have d7 : w22.cell? ⟨w.heap.size, 7, none⟩ = some (.slice vA 0 vC) := (blk_cell HR.out 7).trans rfl
  refine bodyPost_ret (by rw [results_cell_tmp rfl]; go_simp; rfl) rfl ?_
  exact ⟨_, _, _, _, _, _, t0, t1, t2, rfl, ⟨Ota.out, Otb.out, K0.out, K1.out, K2.out⟩, ⟨Ox.out, Oy.out⟩, ⟨Ou.out, Ov.out⟩, B.out⟩
theorem blk_grownB {w w1 : World} {g : Nat} {o : Obj} {row : Option Nat} (h : w.heap[g]? = some o) (hg : w.grownBy w1 row) (hne : some g ≠ row) : w1.heap[g]? = some o := (hg.block g (blk_lt h) hne).trans h
theorem zero2 (w : World) : (zeroValue 2).run Tryz.prog w = .ok (.int .i64 0) w := by kernel_rfl
theorem map_law : Maps.Keyed Tryz.prog 3 := Maps.int_keyed Tryz.underlying3
theorem key0 : keyOf Tryz.prog 3 (.int .i64 0) = some (.int .i64 0) := Maps.keyOf_int_mk Tryz.underlying3 (by decide)
set_option maxRecDepth 100000 in
set_option maxHeartbeats 8000000 in
/-- cost.Of of one number and none. -/
theorem cost_of (w : World) (U uC vC : Nat) (vA : Option Addr) (u0 : w.cell? ⟨U, 0, none⟩ = some (.int .i64 0)) :
    Calls Tryz.prog 108 #[.slice (some ⟨U, 0, none⟩) 1 uC, .slice vA 0 vC] w fun e w' => e = .returned (.agg #[.int .i64 1, .int .i64 0, .int .i64 1, .int .i64 0]) ∧ Below w.heap.size w w' := by
  have U0 := Sd.mk u0
  have UL := Sd.mk (World.block_lt_of_cell? w _ u0)
  clear u0
  have hmm := @run_makeMap Tryz.prog
  go_enter Tryz.func108, Tryz.ntmps108
  go_wp2_with fail
  have z1 : (w.alloc (.cells #[.int .i64 0, .int .i64 0, .int .i64 0, .int .i64 0] 164)).heap.size = w.heap.size + 1 := World.size_alloc _ _
  have z2 : ((w.alloc (.cells #[.int .i64 0, .int .i64 0, .int .i64 0, .int .i64 0] 164)).alloc (.map #[] 0)).heap.size = w.heap.size + 1 + 1 := by rw [World.size_alloc, z1]
  obtain ⟨w1, hw1⟩ : ∃ w1, w1 = ((w.alloc (.cells #[.int .i64 0, .int .i64 0, .int .i64 0, .int .i64 0] 164)).alloc (.map #[] 0)).alloc (.map #[] 0) := ⟨_, rfl⟩
  have HR : Sd (w1.heap[w.heap.size]? = some (.cells #[.int .i64 0, .int .i64 0, .int .i64 0, .int .i64 0] 164 (0, 0))) := ⟨by rw [hw1]; exact blk_alloc (blk_alloc (blk_new w _) _) _⟩
  have M1 : Sd (w1.ownsMap (H := Unit) Tryz.prog 3 (plainElem Tryz.prog 2) (w.heap.size + 1) 0 (.map [])) := ⟨by rw [hw1, ← z1]; exact (World.ownsMap_made _ _ _ _).alloc _⟩
  have M2 : Sd (w1.ownsMap (H := Unit) Tryz.prog 3 (plainElem Tryz.prog 4) (w.heap.size + 1 + 1) 0 (.map [])) := ⟨by rw [hw1, ← z2]; exact World.ownsMap_made _ _ _ _⟩
  have B1 : Sd (Below w.heap.size w w1) := ⟨by rw [hw1]; exact (((Below.refl w.heap.size w).alloc (Nat.le_refl _) _).alloc (by rw [z1]; omega) _).alloc (by rw [z2]; omega) _⟩
  have Z1 : w1.heap.size = w.heap.size + 1 + 1 + 1 := by rw [hw1, World.size_alloc, z2]
  rw [← hw1]
  clear hw1 z1 z2 hmm
  refine wp_loop_rounds 1 ?_
  rw [rounds_succ]
  go_wp2_with fail
  obtain ⟨w2, hw2⟩ : ∃ w2, w2 = w1.alloc (.cells #[.int .i64 1, .int .i64 0, .int .i64 0, .int .i64 0] 164) := ⟨_, rfl⟩
  have HS : Sd (w2.heap[w.heap.size + 1 + 1 + 1]? = some (.cells #[.int .i64 1, .int .i64 0, .int .i64 0, .int .i64 0] 164 (0, 0))) := ⟨by rw [hw2, ← Z1]; exact blk_new _ _⟩
  have HR2 : Sd (w2.heap[w.heap.size]? = some (.cells #[.int .i64 0, .int .i64 0, .int .i64 0, .int .i64 0] 164 (0, 0))) := ⟨by rw [hw2]; exact blk_alloc HR.out _⟩
  have N1 : Sd (w2.ownsMap (H := Unit) Tryz.prog 3 (plainElem Tryz.prog 2) (w.heap.size + 1) 0 (.map [])) := ⟨by rw [hw2]; exact M1.out.alloc _⟩
  have N2 : Sd (w2.ownsMap (H := Unit) Tryz.prog 3 (plainElem Tryz.prog 4) (w.heap.size + 1 + 1) 0 (.map [])) := ⟨by rw [hw2]; exact M2.out.alloc _⟩
  have B2 : Sd (Below w.heap.size w w2) := ⟨by rw [hw2]; exact B1.out.alloc B1.out.size _⟩
  rw [← hw2]
  clear hw2 HR M1 M2 B1 Z1
  have c0 : w2.cell? ⟨U, 0, none⟩ = some (.int .i64 0) := cell_below U0.out B2.out
  have c3 : w2.cell? ⟨w.heap.size + 1 + 1 + 1, 3, none⟩ = some (.int .i64 0) := (blk_cell HS.out 3).trans rfl
  have f3 : w2.frozen? ⟨w.heap.size + 1 + 1 + 1, 3, none⟩ = false := blk_frozen HS.out 3
  have HK := key0
  refine wp_loop_rounds 2 ?_
  rw [rounds_succ]
  go_wp2_with (first
    | (at_lookup; refine wpList_lookup_own_int _ rfl _ _ 204 rfl 3 2 .i64 map_law Tryz.underlying204 Tryz.underlying2 (zero2 _) (w.heap.size + 1) 0 (.map []) rfl N1.out _ _ rfl HK ?_; intro c hat hwc; have HAT := Sd.mk hat; clear hat hwc)
    | (at_mapUpdate; refine wpList_mapUpdate_own _ rfl _ _ _ 205 rfl 3 4 map_law Tryz.underlying205 _ (w.heap.size + 1 + 1) 0 (.map []) rfl (N2.out.setCell (by show w.heap.size + 1 + 1 ≠ w.heap.size + 1 + 1 + 1; omega) _) (by unfold maxLen; omega) _ _ _ rfl rfl HK _ [] (plainElem_bool Tryz.underlying4 true) ?_; intro w3 hown2 hgrow2; have OWN := Sd.mk hown2; have GR := Sd.mk hgrow2; clear hown2 hgrow2))
  have hc : c = 0 := by
    have e : (DataW.lit (.int .i64 0) : DataW Unit) = .lit (.int .i64 c) := HAT.out
    injection e with e
    injection e with _ e
    exact e.symm
  subst hc
  have hw0 : wrap64 0 = 0 := by unfold wrap64; omega
  rw [hw0] at GR ⊢
  have HS3 : Sd (w3.heap[w.heap.size + 1 + 1 + 1]? = some (.cells #[.int .i64 1, .int .i64 0, .int .i64 0, .int .i64 0] 164 (0, 0))) := ⟨blk_grownB ((blk_set HS.out 3 _).trans rfl) GR.out (by intro q; injection q with q; omega)⟩
  have HR3 : Sd (w3.heap[w.heap.size]? = some (.cells #[.int .i64 0, .int .i64 0, .int .i64 0, .int .i64 0] 164 (0, 0))) := ⟨blk_grownB (blk_far HR2.out (p := ⟨w.heap.size + 1 + 1 + 1, 3, none⟩) (by show w.heap.size ≠ w.heap.size + 1 + 1 + 1; omega) _) GR.out (by intro q; injection q with q; omega)⟩
  have B2' : Below w.heap.size w (w2.setCell ⟨w.heap.size + 1 + 1 + 1, 3, none⟩ (.int .i64 0)) := B2.out.setCell (p := ⟨w.heap.size + 1 + 1 + 1, 3, none⟩) (by show w.heap.size ≤ w.heap.size + 1 + 1 + 1; omega) _
  have B3 : Sd (Below w.heap.size w w3) := ⟨B2'.grown GR.out B2'.size (fun k hk => by cases hk; omega)⟩
  clear c0 c3 f3 HAT B2 B2' HR2 HS N1 N2 GR
  have s0 : w3.cell? ⟨w.heap.size + 1 + 1 + 1, 0, none⟩ = some (.int .i64 1) := (blk_cell HS3.out 0).trans rfl
  have s1 : w3.cell? ⟨w.heap.size + 1 + 1 + 1, 1, none⟩ = some (.int .i64 0) := (blk_cell HS3.out 1).trans rfl
  have s2 : w3.cell? ⟨w.heap.size + 1 + 1 + 1, 2, none⟩ = some (.int .i64 0) := (blk_cell HS3.out 2).trans rfl
  have s3 : w3.cell? ⟨w.heap.size + 1 + 1 + 1, 3, none⟩ = some (.int .i64 0) := (blk_cell HS3.out 3).trans rfl
  have fs2 : w3.frozen? ⟨w.heap.size + 1 + 1 + 1, 2, none⟩ = false := blk_frozen HS3.out 2
  have r0 : w3.cell? ⟨w.heap.size, 0, none⟩ = some (.int .i64 0) := (blk_cell HR3.out 0).trans rfl
  have r1 : w3.cell? ⟨w.heap.size, 1, none⟩ = some (.int .i64 0) := (blk_cell HR3.out 1).trans rfl
  have r2 : w3.cell? ⟨w.heap.size, 2, none⟩ = some (.int .i64 0) := (blk_cell HR3.out 2).trans rfl
  have r3 : w3.cell? ⟨w.heap.size, 3, none⟩ = some (.int .i64 0) := (blk_cell HR3.out 3).trans rfl
  have q0 : w3.frozen? ⟨w.heap.size, 0, none⟩ = false := blk_frozen HR3.out 0
  have q1 : w3.frozen? ⟨w.heap.size, 1, none⟩ = false := blk_frozen HR3.out 1
  have q2 : w3.frozen? ⟨w.heap.size, 2, none⟩ = false := blk_frozen HR3.out 2
  have q3 : w3.frozen? ⟨w.heap.size, 3, none⟩ = false := blk_frozen HR3.out 3
  have hsz : Maps.size ((DataW.map []).put (.int .i64 0) (.lit (.bool true)) : DataW Unit) = 1 := by kernel_rfl
  rw [rounds_succ]
  go_wp2_with (at_len; refine wpList_len_own _ rfl _ 205 rfl 3 4 Tryz.underlying205 _ (w.heap.size + 1 + 1) (0 + 1) _ rfl OWN.out ?_; rw [hsz])
  have hne : w.heap.size ≠ w.heap.size + 1 + 1 + 1 := by omega
  have H1 := blk_far HR3.out (p := ⟨w.heap.size + 1 + 1 + 1, 2, none⟩) hne (.int .i64 1)
  have H2 := blk_set (blk_set (blk_set (blk_set H1 0 (.int .i64 1)) 1 (.int .i64 0)) 2 (.int .i64 1)) 3 (.int .i64 0)
  have B4 : Below w.heap.size w (w3.setCell ⟨w.heap.size + 1 + 1 + 1, 2, none⟩ (.int .i64 1)) := B3.out.setCell (p := ⟨w.heap.size + 1 + 1 + 1, 2, none⟩) (by show w.heap.size ≤ w.heap.size + 1 + 1 + 1; omega) _
  have B5 := (((B4.setCell (p := ⟨w.heap.size, 0, none⟩) (Nat.le_refl _) (.int .i64 1)).setCell (p := ⟨w.heap.size, 1, none⟩) (Nat.le_refl _) (.int .i64 0)).setCell (p := ⟨w.heap.size, 2, none⟩) (Nat.le_refl _) (.int .i64 1)).setCell (p := ⟨w.heap.size, 3, none⟩) (Nat.le_refl _) (.int .i64 0)
  refine bodyPost_ret (results_cell_row rfl _ _ w.heap.size 164 #[.int .i64 1, .int .i64 0, .int .i64 1, .int .i64 0] (0, 0) _ rfl H2 Tryz.underlying164 rfl (by kernel_rfl)) rfl ?_
  exact ⟨rfl, B5⟩
theorem up_0_64 (w : World) : Calls Tryz.prog 186 #[.int .i64 0, .int .i64 64] w fun e w' => e = .returned (.int .i64 0) ∧ w' = w := by
  go_enter Tryz.func186, Tryz.ntmps186
  go_wp2
  go_ret
  exact ⟨rfl, rfl⟩
theorem up_1_2 (w : World) : Calls Tryz.prog 186 #[.int .i64 1, .int .i64 2] w fun e w' => e = .returned (.int .i64 1) ∧ w' = w := by
  go_enter Tryz.func186, Tryz.ntmps186
  go_wp2
  go_ret
  exact ⟨rfl, rfl⟩
theorem up_0_2 (w : World) : Calls Tryz.prog 186 #[.int .i64 0, .int .i64 2] w fun e w' => e = .returned (.int .i64 0) ∧ w' = w := by
  go_enter Tryz.func186, Tryz.ntmps186
  go_wp2
  go_ret
  exact ⟨rfl, rfl⟩
set_option maxRecDepth 100000 in
theorem digits_1 (w : World) : Calls Tryz.prog 187 #[.int .i64 1] w fun e w' => e = .returned (.int .i64 1) ∧ w' = w := by
  go_enter Tryz.func187, Tryz.ntmps187
  go_wp2
  go_ret
  refine ⟨?_, rfl⟩
  kernel_rfl
set_option maxRecDepth 100000 in
theorem digits_0 (w : World) : Calls Tryz.prog 187 #[.int .i64 0] w fun e w' => e = .returned (.int .i64 0) ∧ w' = w := by
  go_enter Tryz.func187, Tryz.ntmps187
  go_wp2
  go_ret
  refine ⟨?_, rfl⟩
  kernel_rfl
theorem up_2 (w : World) (n : Int) (h : n = 0 ∨ n = 1) : Calls Tryz.prog 186 #[.int .i64 n, .int .i64 2] w fun e w' => e = .returned (.int .i64 n) ∧ w' = w := by
  rcases h with rfl | rfl
  · exact up_0_2 w
  · exact up_1_2 w
set_option maxRecDepth 100000 in
set_option maxHeartbeats 4000000 in
theorem work_1 (w : World) : Calls Tryz.prog 155 #[.int .i64 1, .agg #[.int .i64 1, .int .i64 0, .int .i64 1, .int .i64 0]] w fun e w' => e = .returned (.tuple #[.int .i64 0, .int .i64 0]) ∧ Below w.heap.size w w' := by
  go_enter Tryz.func155, Tryz.ntmps155
  go_wp2
  go_quiet (first | (go_at_call 186; refine Calls.quiet_of_same (up_0_64 _)))
  go_wp2
  go_ret2
  refine ⟨rfl, ?_⟩
  repeat' (first | exact Below.refl _ _ | refine below_drewN' ?_ _ | refine Below.alloc ?_ (by simp <;> omega) _)
set_option maxRecDepth 100000 in
set_option maxHeartbeats 4000000 in
theorem work_2 (w : World) : Calls Tryz.prog 155 #[.int .i64 2, .agg #[.int .i64 1, .int .i64 0, .int .i64 1, .int .i64 0]] w fun e w' => e = .returned (.tuple #[.int .i64 0, .int .i64 0]) ∧ Below w.heap.size w w' := by
  go_enter Tryz.func155, Tryz.ntmps155
  go_wp2
  go_quiet (first | (go_at_call 186; refine Calls.quiet_of_same (up_0_64 _)))
  go_wp2
  go_ret2
  refine ⟨rfl, ?_⟩
  repeat' (first | exact Below.refl _ _ | refine below_drewN' ?_ _ | refine Below.alloc ?_ (by simp <;> omega) _)
set_option maxRecDepth 100000 in
set_option maxHeartbeats 4000000 in
theorem work_3 (w : World) : Calls Tryz.prog 155 #[.int .i64 3, .agg #[.int .i64 1, .int .i64 0, .int .i64 1, .int .i64 0]] w fun e w' => e = .returned (.tuple #[.int .i64 256, .int .i64 0]) ∧ Below w.heap.size w w' := by
  go_enter Tryz.func155, Tryz.ntmps155
  go_wp2
  go_quiet (first | (go_at_call 186; refine Calls.quiet_of_same (up_0_64 _)))
  go_wp2_with fail
  generalize hw1 : World.drewN _ nq = w1
  have c0 : w1.cell? ⟨w.heap.size, 0, none⟩ = some (.int .i64 1) := by rw [← hw1]; simp [go_sem]
  have c1 : w1.cell? ⟨w.heap.size, 1, none⟩ = some (.int .i64 0) := by rw [← hw1]; simp [go_sem]
  have c3 : w1.cell? ⟨w.heap.size, 3, none⟩ = some (.int .i64 0) := by rw [← hw1]; simp [go_sem]
  have BB : Below w.heap.size w w1 := by
    rw [← hw1]
    repeat' (first | exact Below.refl _ _ | refine below_drewN' ?_ _ | refine Below.alloc ?_ (by simp <;> omega) _)
  have BS := Sd.mk BB
  clear hw1 BB
  go_quiet (first | (go_at_call 186; refine Calls.quiet_of_same (up_2 _ _ (by decide))) | (go_at_call 187; refine Calls.quiet_of_same (digits_0 _)))
  go_wp2
  go_ret2
  refine ⟨rfl, ?_⟩
  exact below_drewN' BS.out _
set_option maxRecDepth 100000 in
set_option maxHeartbeats 4000000 in
theorem work_4 (w : World) : Calls Tryz.prog 155 #[.int .i64 4, .agg #[.int .i64 1, .int .i64 0, .int .i64 1, .int .i64 0]] w fun e w' => e = .returned (.tuple #[.int .i64 1, .int .i64 0]) ∧ Below w.heap.size w w' := by
  go_enter Tryz.func155, Tryz.ntmps155
  go_wp2
  go_quiet (first | (go_at_call 186; refine Calls.quiet_of_same (up_0_64 _)))
  go_wp2_with fail
  generalize hw1 : World.drewN _ nq = w1
  have c0 : w1.cell? ⟨w.heap.size, 0, none⟩ = some (.int .i64 1) := by rw [← hw1]; simp [go_sem]
  have c1 : w1.cell? ⟨w.heap.size, 1, none⟩ = some (.int .i64 0) := by rw [← hw1]; simp [go_sem]
  have c3 : w1.cell? ⟨w.heap.size, 3, none⟩ = some (.int .i64 0) := by rw [← hw1]; simp [go_sem]
  have BB : Below w.heap.size w w1 := by
    rw [← hw1]
    repeat' (first | exact Below.refl _ _ | refine below_drewN' ?_ _ | refine Below.alloc ?_ (by simp <;> omega) _)
  have BS := Sd.mk BB
  clear hw1 BB
  go_quiet (first | (go_at_call 186; refine Calls.quiet_of_same (up_2 _ _ (by decide))) | (go_at_call 187; refine Calls.quiet_of_same (digits_0 _)))
  go_wp2
  go_ret2
  refine ⟨rfl, ?_⟩
  exact below_drewN' BS.out _
set_option maxRecDepth 100000 in
set_option maxHeartbeats 4000000 in
theorem work_5 (w : World) : Calls Tryz.prog 155 #[.int .i64 5, .agg #[.int .i64 1, .int .i64 0, .int .i64 1, .int .i64 0]] w fun e w' => e = .returned (.tuple #[.int .i64 4, .int .i64 0]) ∧ Below w.heap.size w w' := by
  go_enter Tryz.func155, Tryz.ntmps155
  go_wp2
  go_quiet (first | (go_at_call 186; refine Calls.quiet_of_same (up_0_64 _)))
  go_wp2
  go_ret2
  refine ⟨rfl, ?_⟩
  repeat' (first | exact Below.refl _ _ | refine below_drewN' ?_ _ | refine Below.alloc ?_ (by simp <;> omega) _)
set_option maxRecDepth 100000 in
set_option maxHeartbeats 4000000 in
theorem work_6 (w : World) : Calls Tryz.prog 155 #[.int .i64 6, .agg #[.int .i64 1, .int .i64 0, .int .i64 1, .int .i64 0]] w fun e w' => e = .returned (.tuple #[.int .i64 6, .int .i64 0]) ∧ Below w.heap.size w w' := by
  go_enter Tryz.func155, Tryz.ntmps155
  go_wp2
  go_quiet (first | (go_at_call 186; refine Calls.quiet_of_same (up_0_64 _)))
  go_wp2
  go_ret2
  refine ⟨rfl, ?_⟩
  repeat' (first | exact Below.refl _ _ | refine below_drewN' ?_ _ | refine Below.alloc ?_ (by simp <;> omega) _)
set_option maxRecDepth 100000 in
set_option maxHeartbeats 4000000 in
theorem work_7 (w : World) : Calls Tryz.prog 155 #[.int .i64 7, .agg #[.int .i64 1, .int .i64 0, .int .i64 1, .int .i64 0]] w fun e w' => e = .returned (.tuple #[.int .i64 0, .int .i64 0]) ∧ Below w.heap.size w w' := by
  go_enter Tryz.func155, Tryz.ntmps155
  go_wp2
  go_quiet (first | (go_at_call 186; refine Calls.quiet_of_same (up_0_64 _)))
  go_wp2
  go_ret2
  refine ⟨rfl, ?_⟩
  repeat' (first | exact Below.refl _ _ | refine below_drewN' ?_ _ | refine Below.alloc ?_ (by simp <;> omega) _)
set_option maxRecDepth 100000 in
set_option maxHeartbeats 4000000 in
theorem work_8 (w : World) : Calls Tryz.prog 155 #[.int .i64 8, .agg #[.int .i64 1, .int .i64 0, .int .i64 1, .int .i64 0]] w fun e w' => e = .returned (.tuple #[.int .i64 0, .int .i64 0]) ∧ Below w.heap.size w w' := by
  go_enter Tryz.func155, Tryz.ntmps155
  go_wp2
  go_quiet (first | (go_at_call 186; refine Calls.quiet_of_same (up_0_64 _)))
  go_wp2
  go_ret2
  refine ⟨rfl, ?_⟩
  repeat' (first | exact Below.refl _ _ | refine below_drewN' ?_ _ | refine Below.alloc ?_ (by simp <;> omega) _)
set_option maxRecDepth 100000 in
set_option maxHeartbeats 16000000 in
/-- cost.Choose: the table, for one number and none. -/
theorem choose_1 (w : World) : Calls Tryz.prog 109 #[.agg #[.int .i64 1, .int .i64 0, .int .i64 1, .int .i64 0]] w fun e w' => e = .returned (.int .i64 1) ∧ Below w.heap.size w w' := by
  go_enter Tryz.func109, Tryz.ntmps109
  go_wp2_with fail
  obtain ⟨w0, hw0⟩ : ∃ w0, w0 = w.alloc (.cells #[.int .i64 1, .int .i64 0, .int .i64 1, .int .i64 0] 164) := ⟨_, rfl⟩
  have HS : Sd (w0.heap[w.heap.size]? = some (.cells #[.int .i64 1, .int .i64 0, .int .i64 1, .int .i64 0] 164 (0, 0))) := ⟨by rw [hw0]; exact blk_new _ _⟩
  have B : Sd (Below w.heap.size w w0) := ⟨by rw [hw0]; exact (Below.refl _ _).alloc (Nat.le_refl _) _⟩
  rw [← hw0]
  clear hw0
  refine wp_loop_rounds 9 ?_
  rw [rounds_succ]
  have c0 : w0.cell? ⟨w.heap.size, 0, none⟩ = some (.int .i64 1) := (blk_cell HS.out 0).trans rfl
  have c1 : w0.cell? ⟨w.heap.size, 1, none⟩ = some (.int .i64 0) := (blk_cell HS.out 1).trans rfl
  have c2 : w0.cell? ⟨w.heap.size, 2, none⟩ = some (.int .i64 1) := (blk_cell HS.out 2).trans rfl
  have c3 : w0.cell? ⟨w.heap.size, 3, none⟩ = some (.int .i64 0) := (blk_cell HS.out 3).trans rfl
  go_wp2_with fail
  refine (work_1 _).mono ?_
  rintro e w1 ⟨rfl, hb⟩
  have HS := Sd.mk (blk_below HS.out hb (blk_lt HS.out))
  have B := Sd.mk (below_both B.out hb)
  clear hb c0 c1 c2 c3
  go_wp2_with fail
  rw [rounds_succ]
  have c0 : w1.cell? ⟨w.heap.size, 0, none⟩ = some (.int .i64 1) := (blk_cell HS.out 0).trans rfl
  have c1 : w1.cell? ⟨w.heap.size, 1, none⟩ = some (.int .i64 0) := (blk_cell HS.out 1).trans rfl
  have c2 : w1.cell? ⟨w.heap.size, 2, none⟩ = some (.int .i64 1) := (blk_cell HS.out 2).trans rfl
  have c3 : w1.cell? ⟨w.heap.size, 3, none⟩ = some (.int .i64 0) := (blk_cell HS.out 3).trans rfl
  go_wp2_with fail
  refine (work_2 _).mono ?_
  rintro e w2 ⟨rfl, hb⟩
  have HS := Sd.mk (blk_below HS.out hb (blk_lt HS.out))
  have B := Sd.mk (below_both B.out hb)
  clear hb c0 c1 c2 c3
  go_wp2_with fail
  rw [rounds_succ]
  have c0 : w2.cell? ⟨w.heap.size, 0, none⟩ = some (.int .i64 1) := (blk_cell HS.out 0).trans rfl
  have c1 : w2.cell? ⟨w.heap.size, 1, none⟩ = some (.int .i64 0) := (blk_cell HS.out 1).trans rfl
  have c2 : w2.cell? ⟨w.heap.size, 2, none⟩ = some (.int .i64 1) := (blk_cell HS.out 2).trans rfl
  have c3 : w2.cell? ⟨w.heap.size, 3, none⟩ = some (.int .i64 0) := (blk_cell HS.out 3).trans rfl
  go_wp2_with fail
  refine (work_3 _).mono ?_
  rintro e w3 ⟨rfl, hb⟩
  have HS := Sd.mk (blk_below HS.out hb (blk_lt HS.out))
  have B := Sd.mk (below_both B.out hb)
  clear hb c0 c1 c2 c3
  go_wp2_with fail
  rw [rounds_succ]
  have c0 : w3.cell? ⟨w.heap.size, 0, none⟩ = some (.int .i64 1) := (blk_cell HS.out 0).trans rfl
  have c1 : w3.cell? ⟨w.heap.size, 1, none⟩ = some (.int .i64 0) := (blk_cell HS.out 1).trans rfl
  have c2 : w3.cell? ⟨w.heap.size, 2, none⟩ = some (.int .i64 1) := (blk_cell HS.out 2).trans rfl
  have c3 : w3.cell? ⟨w.heap.size, 3, none⟩ = some (.int .i64 0) := (blk_cell HS.out 3).trans rfl
  go_wp2_with fail
  refine (work_4 _).mono ?_
  rintro e w4 ⟨rfl, hb⟩
  have HS := Sd.mk (blk_below HS.out hb (blk_lt HS.out))
  have B := Sd.mk (below_both B.out hb)
  clear hb c0 c1 c2 c3
  go_wp2_with fail
  rw [rounds_succ]
  have c0 : w4.cell? ⟨w.heap.size, 0, none⟩ = some (.int .i64 1) := (blk_cell HS.out 0).trans rfl
  have c1 : w4.cell? ⟨w.heap.size, 1, none⟩ = some (.int .i64 0) := (blk_cell HS.out 1).trans rfl
  have c2 : w4.cell? ⟨w.heap.size, 2, none⟩ = some (.int .i64 1) := (blk_cell HS.out 2).trans rfl
  have c3 : w4.cell? ⟨w.heap.size, 3, none⟩ = some (.int .i64 0) := (blk_cell HS.out 3).trans rfl
  go_wp2_with fail
  refine (work_5 _).mono ?_
  rintro e w5 ⟨rfl, hb⟩
  have HS := Sd.mk (blk_below HS.out hb (blk_lt HS.out))
  have B := Sd.mk (below_both B.out hb)
  clear hb c0 c1 c2 c3
  go_wp2_with fail
  rw [rounds_succ]
  have c0 : w5.cell? ⟨w.heap.size, 0, none⟩ = some (.int .i64 1) := (blk_cell HS.out 0).trans rfl
  have c1 : w5.cell? ⟨w.heap.size, 1, none⟩ = some (.int .i64 0) := (blk_cell HS.out 1).trans rfl
  have c2 : w5.cell? ⟨w.heap.size, 2, none⟩ = some (.int .i64 1) := (blk_cell HS.out 2).trans rfl
  have c3 : w5.cell? ⟨w.heap.size, 3, none⟩ = some (.int .i64 0) := (blk_cell HS.out 3).trans rfl
  go_wp2_with fail
  refine (work_6 _).mono ?_
  rintro e w6 ⟨rfl, hb⟩
  have HS := Sd.mk (blk_below HS.out hb (blk_lt HS.out))
  have B := Sd.mk (below_both B.out hb)
  clear hb c0 c1 c2 c3
  go_wp2_with fail
  rw [rounds_succ]
  have c0 : w6.cell? ⟨w.heap.size, 0, none⟩ = some (.int .i64 1) := (blk_cell HS.out 0).trans rfl
  have c1 : w6.cell? ⟨w.heap.size, 1, none⟩ = some (.int .i64 0) := (blk_cell HS.out 1).trans rfl
  have c2 : w6.cell? ⟨w.heap.size, 2, none⟩ = some (.int .i64 1) := (blk_cell HS.out 2).trans rfl
  have c3 : w6.cell? ⟨w.heap.size, 3, none⟩ = some (.int .i64 0) := (blk_cell HS.out 3).trans rfl
  go_wp2_with fail
  refine (work_7 _).mono ?_
  rintro e w7 ⟨rfl, hb⟩
  have HS := Sd.mk (blk_below HS.out hb (blk_lt HS.out))
  have B := Sd.mk (below_both B.out hb)
  clear hb c0 c1 c2 c3
  go_wp2_with fail
  rw [rounds_succ]
  have c0 : w7.cell? ⟨w.heap.size, 0, none⟩ = some (.int .i64 1) := (blk_cell HS.out 0).trans rfl
  have c1 : w7.cell? ⟨w.heap.size, 1, none⟩ = some (.int .i64 0) := (blk_cell HS.out 1).trans rfl
  have c2 : w7.cell? ⟨w.heap.size, 2, none⟩ = some (.int .i64 1) := (blk_cell HS.out 2).trans rfl
  have c3 : w7.cell? ⟨w.heap.size, 3, none⟩ = some (.int .i64 0) := (blk_cell HS.out 3).trans rfl
  go_wp2_with fail
  refine (work_8 _).mono ?_
  rintro e w8 ⟨rfl, hb⟩
  have HS := Sd.mk (blk_below HS.out hb (blk_lt HS.out))
  have B := Sd.mk (below_both B.out hb)
  clear hb c0 c1 c2 c3
  go_wp2_with fail
  rw [rounds_succ]
  go_wp2
  go_ret
  exact ⟨rfl, B.out⟩
set_option maxRecDepth 100000 in
set_option maxHeartbeats 4000000 in
theorem room_1 (w : World) : Calls Tryz.prog 156 #[.int .i64 1, .agg #[.int .i64 1, .int .i64 0, .int .i64 1, .int .i64 0]] w fun e w' => e = .returned (.tuple #[.int .i64 2, .int .i64 0]) ∧ Below w.heap.size w w' := by
  go_enter Tryz.func156, Tryz.ntmps156
  go_wp2
  go_quiet (first | (go_at_call 186; refine Calls.quiet_of_same (up_0_64 _)))
  go_wp2
  go_ret2
  refine ⟨rfl, ?_⟩
  repeat' (first | exact Below.refl _ _ | refine below_drewN' ?_ _ | refine Below.alloc ?_ (by simp <;> omega) _)
set_option maxRecDepth 100000 in
set_option maxHeartbeats 4000000 in
theorem fits_1 (w : World) : Calls Tryz.prog 110 #[.int .i64 1, .agg #[.int .i64 1, .int .i64 0, .int .i64 1, .int .i64 0], .int .i64 1099511627776] w fun e w' => e = .returned (.int .i64 0) ∧ Below w.heap.size w w' := by
  go_enter Tryz.func110, Tryz.ntmps110
  go_wp2_with fail
  refine (room_1 _).mono ?_
  rintro e w' ⟨rfl, hb⟩
  have B : Sd (Below w.heap.size w w') := ⟨((Below.refl w.heap.size w).alloc (Nat.le_refl _) _).trans (hb.mono (by rw [World.size_alloc]; omega))⟩
  clear hb
  go_wp2
  go_ret
  exact ⟨rfl, B.out⟩
end Go.Proofs.YtjkjanegankdhaaGreat.Top
