/- russ.steps, russ.Len: what they compute. -/
import Derived.Test.YtpdjdffimighkaaZHTc
import Derived.Test.YtpdjdffimighkaaZHRp
namespace Go.Proofs.Ytpdjdffimighkaa.Tile
open Go.RowKit Go.Proofs.Ytpdjdffimighkaa.PRussRuns Go.Proofs.YtpdjdffimighkaaW.PrintWords Go.Proofs.YtpdjdffimighkaaW.PrintLast Go.Proofs.YtpdjdffimighkaaW.PrintMore
set_option linter.unusedVariables false
set_option linter.unusedSimpArgs false
/-- The squares in memory, not laid out in a block of some kind. -/
def TlX (X : Nat → Prop) (W : World) (b t : Nat) : Prop := (1 ≤ t ∧ t ≤ 3) ∧ (W.heap[b]? = some (.cells (blk t 0 0 (.slice none 0 0)) 65 (0, 0)) ∨ ∃ g, ¬ X g ∧ W.heap[b]? = some (.cells (blk t 1 0 (.slice (some ⟨g, 0, none⟩) (2 ^ (t * t + 2 * t)) (2 ^ (t * t + 2 * t)))) 65 (0, 0)) ∧ W.heap[g]? = some (.cells (tabA (2 ^ (t * t + 2 * t)) (tabv t)) 5 (0, 0)))
theorem TlX.tl {X : Nat → Prop} {W : World} {b t : Nat} (h : TlX X W b t) : Tl W b t := by
  refine ⟨h.1, ?_⟩
  rcases h.2 with h | ⟨g, _, h1, h2⟩
  · exact Or.inl h
  · exact Or.inr ⟨g, h1, h2⟩
theorem Tl.new_X {W W' : World} {b t : Nat} (h : Tl W b t) (hb : Below W.heap.size W W') : TlX (fun k => W.heap.size ≤ k) W' b t := by
  refine ⟨h.1, ?_⟩
  rcases h.2 with h | ⟨g, h1, h2⟩
  · exact Or.inl ((hb.block b (blk_lt h)).trans h)
  · have := blk_lt h2
    exact Or.inr ⟨g, by omega, (hb.block b (blk_lt h1)).trans h1, (hb.block g this).trans h2⟩
theorem TlX.mono {X Y : Nat → Prop} {W : World} {b t : Nat} (h : TlX X W b t) (hY : ∀ k, Y k → X k) : TlX Y W b t := by
  refine ⟨h.1, ?_⟩
  rcases h.2 with h | ⟨g, hg, h1, h2⟩
  · exact Or.inl h
  · exact Or.inr ⟨g, fun q => hg (hY g q), h1, h2⟩
theorem TlX.kept {X Y : Nat → Prop} {W W' : World} {b t : Nat} (h : TlX X W b t) (hk : Kept W W' Y) (hY : ∀ k, Y k → X k) (hb : ¬ Y b) : TlX X W' b t := by
  refine ⟨h.1, ?_⟩
  rcases h.2 with h | ⟨g, hg, h1, h2⟩
  · exact Or.inl ((hk.2 b (blk_lt h) hb).trans h)
  · exact Or.inr ⟨g, hg, (hk.2 b (blk_lt h1) hb).trans h1, (hk.2 g (blk_lt h2) (fun q => hg (hY g q))).trans h2⟩
/-- once.Do(x.work): behind it all squares are laid out. -/
theorem do_workX {X : Nat → Prop} {b t n0 : Nat} (w : World) (hT : TlX X w b t) (hX : ∀ k, X k → k < w.heap.size) (hn0 : n0 ≤ b) :
    Calls Try.prog 27 #[.pointer (some ⟨b, 1, none⟩), .func (.func 28) #[.pointer (some ⟨b, 0, none⟩)] #[]] w fun e w' => e = .returned (.tuple #[]) ∧ ((∃ g, ¬ X g ∧ w'.heap[b]? = some (.cells (blk t 1 0 (.slice (some ⟨g, 0, none⟩) (2 ^ (t * t + 2 * t)) (2 ^ (t * t + 2 * t)))) 65 (0, 0)) ∧ w'.heap[g]? = some (.cells (tabA (2 ^ (t * t + 2 * t)) (tabv t)) 5 (0, 0))) ∧ Below n0 w w' ∧ Kept w w' (fun k => k = b)) := by
  obtain ⟨ht, h⟩ := hT
  rcases h with h | ⟨g, hx, h1, h2⟩
  · have hlt := blk_lt h
    have h' : (w.setCell ⟨b, 2, none⟩ (.int .i32 1)).heap[b]? = some (.cells (blk t 0 1 (.slice none 0 0)) 65 (0, 0)) := by
      have := blk_set h 2 (.int .i32 1)
      rw [this]; rfl
    have hz : (w.setCell ⟨b, 2, none⟩ (.int .i32 1)).heap.size = w.heap.size := by simp [World.setCell]
    refine (do_first b (.pointer (some ⟨b, 0, none⟩)) w (fun w2 => ∃ g, w.heap.size ≤ g ∧ w2.heap[b]? = some (.cells (blk t 0 1 (.slice (some ⟨g, 0, none⟩) (2 ^ (t * t + 2 * t)) (2 ^ (t * t + 2 * t)))) 65 (0, 0)) ∧ w2.heap[g]? = some (.cells (tabA (2 ^ (t * t + 2 * t)) (tabv t)) 5 (0, 0)) ∧ Below n0 w w2 ∧ Kept w w2 (fun k => k = b)) ((blk_cell h 1).trans rfl) ((blk_cell h 2).trans rfl) (blk_frozen h 1) (blk_frozen h 2) ((work (n0 := n0) ht _ hn0 h').mono ?_)).mono ?_
    · rintro e w2 ⟨rfl, g, hg0, hb, hg, hbel, hkept⟩
      refine ⟨rfl, ⟨(blk_cell hb 1).trans rfl, blk_frozen hb 1, (blk_cell hb 2).trans rfl, blk_frozen hb 2⟩, g, by omega, hb, hg, ?_, ?_⟩
      · exact ((Below.refl n0 w).setCell (p := ⟨b, 2, none⟩) hn0 _).trans hbel
      · exact (Kept.setCell (S := fun k => k = b) (Kept.refl w _) (p := ⟨b, 2, none⟩) (Or.inl rfl) _).then_ hkept (fun k hk => Or.inl hk)
    · rintro e w' ⟨rfl, w2, ⟨g, hg0, hb, hg, hbel, hkept⟩, rfl⟩
      refine ⟨rfl, ⟨g, fun hx => by have := hX g hx; omega, ?_, ?_⟩, ?_, ?_⟩
      · have a1 := blk_set (show w2.drew.heap[b]? = _ from hb) 1 (.int .u32 1)
        have a2 := blk_set a1 2 (.int .i32 0)
        rw [a2]; rfl
      · refine (Below.heap_setCell _ ⟨b, 2, none⟩ _ g (by show g ≠ b; omega)).trans ((Below.heap_setCell _ ⟨b, 1, none⟩ _ g (by show g ≠ b; omega)).trans hg)
      · exact ((hbel.trans (below_drew1 (Below.refl _ _))).setCell (p := ⟨b, 1, none⟩) hn0 _).setCell (p := ⟨b, 2, none⟩) hn0 _
      · exact Kept.setCell (S := fun k => k = b) (Kept.setCell (S := fun k => k = b) hkept.drew (p := ⟨b, 1, none⟩) (Or.inl rfl) _) (p := ⟨b, 2, none⟩) (Or.inl rfl) _
  · refine (do_done ⟨b, 1, none⟩ 1 (by decide) _ w ((blk_cell h1 1).trans rfl)).mono ?_
    rintro e w' ⟨rfl, rfl⟩
    exact ⟨rfl, ⟨g, hx, h1, h2⟩, Below.refl _ _, Kept.refl _ _⟩
theorem lookX {X : Nat → Prop} {b t n0 q p l : Nat} (w : World) (hT : TlX X w b t) (hX : ∀ k, X k → k < w.heap.size) (hn0 : n0 ≤ b) (hq : q < 2 ^ (t * t)) (hp : p < 2 ^ t) (hl : l < 2 ^ t) :
    Calls Try.prog 23 #[.pointer (some ⟨b, 0, none⟩), .int .i64 (q : Int), .int .i64 (p : Int), .int .i64 (l : Int)] w fun e w' => e = .returned (.tuple #[.int .i64 (bot t (q : Int) (p : Int) (l : Int) t), .int .i64 (rig t (q : Int) (p : Int) (l : Int) t), .int .i64 0]) ∧ TlX X w' b t ∧ Below n0 w w' ∧ Kept w w' (fun k => k = b) := by
  have ht := hT.1
  have hp8 : 2 ^ t ≤ 2 ^ 3 := Nat.pow_le_pow_right (by decide) ht.2
  have hq9 : 2 ^ (t * t) ≤ 2 ^ (3 * 3) := Nat.pow_le_pow_right (by decide) (Nat.mul_le_mul ht.2 ht.2)
  refine calls_of_wp Try.func23 rfl ?_
  show Rg.code11.wp _ _ _ _
  generalize hR : (fun (e : Ending) (w' : World) => e = .returned (.tuple #[.int .i64 (bot t (q : Int) (p : Int) (l : Int) t), .int .i64 (rig t (q : Int) (p : Int) (l : Int) t), .int .i64 0]) ∧ TlX X w' b t ∧ Below n0 w w' ∧ Kept w w' (fun k => k = b)) = R
  have hP : Rg.PQ (bodyPost Try.prog Try.f23 R) := fun c a a' w hd h => ⟨hd.trans h.1, h.2⟩
  obtain ⟨a0, ha0⟩ : ∃ a0 : Act, a0 = { tmps := #[.pointer (some ⟨b, 0, none⟩), .int .i64 (q : Int), .int .i64 (p : Int), .int .i64 (l : Int)] ++ Array.replicate (Try.f23.ntmps - (#[.pointer (some ⟨b, 0, none⟩), .int .i64 (q : Int), .int .i64 (p : Int), .int .i64 (l : Int)] : Array Value).size) undef, defers := [] } := ⟨_, rfl⟩
  have hsz : a0.tmps.size = 90 := by rw [ha0]; simp [Try.ntmps23]
  have e0 : a0.eval (.tmp 0) = .pointer (some ⟨b, 0, none⟩) := by rw [ha0]; exact Ev.entry rfl
  have e1 : a0.eval (.tmp 1) = .int .i64 (q : Int) := by rw [ha0]; exact Ev.entry rfl
  have e2 : a0.eval (.tmp 2) = .int .i64 (p : Int) := by rw [ha0]; exact Ev.entry rfl
  have e3 : a0.eval (.tmp 3) = .int .i64 (l : Int) := by rw [ha0]; exact Ev.entry rfl
  have hd0 : a0.defers = [] := by rw [ha0]
  rw [← ha0]
  clear ha0
  have hB : ∃ d all, w.heap[b]? = some (.cells (blk t d 0 all) 65 (0, 0)) := by
    rcases hT.2 with h | ⟨g, _, h, _⟩
    · exact ⟨_, _, h⟩
    · exact ⟨_, _, h⟩
  obtain ⟨d, all, hb⟩ := hB
  refine wp_seq (Rg.k0 hsz ?_)
  intro a1 k1
  refine wp_seq (Rg.k1 (k1.1.trans hsz) ((k1.2.2 0 (by decide)).trans e0) ht hb ?_)
  intro a2 k2 e11
  have st2 : Ev.Stay [8, 9, 10, 11, 13, 14, 15, 16, 17] a0 a2 := k1.trans k2 (by decide) (by decide)
  have z2 := st2.1.trans hsz
  refine wp_seq (wp_seq (Rg.k2 (q := (q : Int)) (p := (p : Int)) (l := (l : Int)) z2 (fun c a a' w hd h => hP c a a' w hd h) ((st2.2.2 0 (by decide)).trans e0) ((st2.2.2 1 (by decide)).trans e1) ((st2.2.2 2 (by decide)).trans e2) ((st2.2.2 3 (by decide)).trans e3) e11 ht (show w.drew.heap[b]? = _ from hb) (by omega) (by omega) (by omega) (by omega) (by omega) (by omega) ?_))
  intro a3 k3 e51
  refine wp_cond_false e51 (wp_skip ?_)
  show Code.wp _ _ _ _ _
  have st3 : Ev.Stay (8 :: 9 :: 10 :: 11 :: List.range' 13 39) a0 a3 := st2.trans k3 (by decide) (by decide)
  have hTd : TlX X w.drew b t := hT
  refine wp_seq (Rg.k4 (st3.1.trans hsz) ((st3.2.2 0 (by decide)).trans e0) (do_workX (n0 := n0) w.drew hTd hX hn0) ?_)
  rintro a4 W4 k4 ⟨⟨g, hx4, hb4, hg4⟩, B4, K4⟩
  show Code.wp _ _ _ _ _
  have st4 : Ev.Stay (8 :: 9 :: 10 :: 11 :: List.range' 13 45) a0 a4 := st3.trans k4 (by decide) (by decide)
  have tv := tabv_at ht hq hp hl
  have o1 := or_pow (x := (q : Int)) (y := (p : Int)) ht (by omega) (by omega) (by omega) (by exact_mod_cast hp)
  have hx2 : (q * 2 ^ t + p : Nat) < 100000 := by
    have : q * 2 ^ t ≤ 512 * 8 := Nat.mul_le_mul (by omega) hp8
    omega
  have c1 : ((q : Int) * 2 ^ t + (p : Int)) = ((q * 2 ^ t + p : Nat) : Int) := by simp
  have o2 := or_pow (x := (q : Int) * 2 ^ t + (p : Int)) (y := (l : Int)) ht (by rw [c1]; omega) (by rw [c1]; omega) (by omega) (by exact_mod_cast hl)
  have hpb : (0 : Int) ≤ (p : Int) ∧ (p : Int) < 1024 := by omega
  have hlb : (0 : Int) ≤ (l : Int) ∧ (l : Int) < 1024 := by omega
  have bf := byte_facts ht (rig_bd (t := t) (q := (q : Int)) hpb hlb) (bot_bd (t := t) (q := (q : Int)) hpb hlb)
  refine wp_seq (Rg.k5 (g := g) (N := 2 ^ (t * t + 2 * t)) (x := (q * 2 ^ t + p) * 2 ^ t + l) (q := (q : Int)) (p := (p : Int)) (l := (l : Int)) (st4.1.trans hsz) (fun c a a' w hd h => hP c a a' w hd h) ((st4.2.2 0 (by decide)).trans e0) ((st4.2.2 1 (by decide)).trans e1) ((st4.2.2 2 (by decide)).trans e2) ((st4.2.2 3 (by decide)).trans e3) ht (show W4.drew.heap[b]? = _ from hb4) (tab_cell (show W4.drew.heap[g]? = _ from hg4) tv.1) tv.1 o1.1 o1.2 o2.1 (by rw [o2.2]; simp) (by rw [tv.2]; exact wr (by omega) (by omega)) ?_)
  intro a5 k5 e12
  show Code.wp _ _ _ _ _
  have st5 : Ev.Stay (8 :: 9 :: 10 :: 11 :: List.range' 12 68) a0 a5 := st4.trans k5 (by decide) (by decide)
  rw [tv.2] at e12
  refine wp_seq (Rg.k6 (st5.1.trans hsz) (fun c a a' w hd h => hP c a a' w hd h) ((st5.2.2 0 (by decide)).trans e0) ((k5.2.2 11 (by decide)).trans ((k4.2.2 11 (by decide)).trans ((k3.2.2 11 (by decide)).trans e11))) e12 ht (show W4.drew.drew.heap[b]? = _ from hb4) (by have := bf.2.2.2.1; rw [show (((2 ^ t : Nat) : Int) - 1) = 2 ^ t - 1 by simp]; exact this) bf.2.2.2.1 bf.2.2.2.2.1 ?_)
  intro a6 k6 e8 e9 e10
  refine wp_ret ⟨k6.2.1.trans (st5.2.1.trans hd0), _, Rg.look_res e8 e9 e10, ?_⟩
  rw [← hR]
  refine ⟨rfl, ⟨ht, Or.inr ⟨g, hx4, hb4, hg4⟩⟩, ?_, ?_⟩
  · exact (below_drew1 (Below.refl _ _)).trans (B4.trans (below_drew1 (below_drew1 (Below.refl _ _))))
  · exact ((Kept.refl w _).drew.then_ K4 (fun k hk => Or.inl hk)).drew.drew
noncomputable def Ru.body : Nat → Option Code
  | 17 => Try.f17.body
  | 9 => Try.f9.body
  | 20 => Try.f20.body
  | 10 => Try.f10.body
  | _ => none
noncomputable def Ru.ops (f k : Nat) : Array Oper := ((Ru.body f).bind fun c => opsIn c k).getD #[]
theorem up_calls {n t : Nat} (w : World) (hn : n ≤ 1000) (ht : 1 ≤ t ∧ t ≤ 3) : Calls Try.prog 19 #[.int .i64 (n : Int), .int .i64 (t : Int)] w fun e w' => e = .returned (.int .i64 ((upN n t : Nat) : Int)) ∧ ∃ m, w' = w.drewN m := by
  refine (russ_up.calls _ _ _ w (up_f hn ht)).mono ?_
  rintro e w' ⟨rfl, h⟩
  exact ⟨rfl, h.out⟩
theorem Ev.append {P : Program} {a : Act} {o : Oper} {W : World} {K : Act → World → Prop} {Q : Exit → Act → World → Prop} (s x : Operand) (t e : TypeId) (z : Value) (bytes : Nat)
    (ho : o.op = .call { callee := .builtin .append, args := #[s, x], argTypes := #[t, t] })
    (ht : P.underlying t = some (.slice e)) (hinfo : (P.info? e).map (fun i => (i.zero, i.size, i.bytes)) = some (some z, 1, bytes)) (hz : z.cells.size = 1)
    (base : Nat) (v : Value) (n : Nat) (xs : List Value) (hs : a.eval s = v) (hown : W.ownsRow base e 1 v n xs) (bx : Nat) (u : Value) (hx : a.eval x = .slice (some ⟨bx, 0, none⟩) 1 1) (hu : W.cell? ⟨bx, 0, none⟩ = some u) (h1 : u.oneCell' = true) (h63 : n + 1 ≤ maxLen) (hbytes : (n + 1) * bytes ≤ 140737488355328) (hbase : base ≤ W.heap.size)
    (h : ∀ v' w', w'.ownsRow base e 1 v' (n + 1) (xs ++ [u]) → W.grownBy w' v.ownBlock → (v'.ownBlock = v.ownBlock ∨ v'.ownBlock = some W.heap.size) → K (a.put o.dst v') w') : o.wp P a W K Q := by
  obtain ⟨i, hi, hz0, hz1, hz2⟩ := info_parts hinfo
  obtain ⟨v', w', hr, h2, h3, h4, h5⟩ := run_append_own_at (P := P) W base t o.type e i z 1 bytes ht hi hz0 hz1 hz2 hz (by omega) v n xs hown ⟨bx, 0, none⟩ 1 1 [u] rfl (fun j y hj => by
    match j, hj with
    | 0, hj => simp at hj; subst hj; exact hu
    | j + 1, hj => simp at hj) (fun y hy => by simp at hy; subst hy; exact h1) h63 hbytes hbase
  unfold Oper.wp execOp
  simp only [ho, resolve, invoke, builtin, Sem.run_bind, Sem.run_pure, Result.andThen_ok, List.map_toArray, List.map_cons, List.map_nil, hs, hx, hr]
  exact h v' w' h2 h3 h5
set_option maxHeartbeats 2000000 in
theorem Rg.y0 {id : Nat} {Q : Exit → Act → World → Prop} {a : Act} {W : World} 
    (hsz : a.tmps.size = 85)  
    (hQ : ∀ a', Ev.Stay [6] a a' → Q .normal a' (W)) : (Code.region id (Ru.ops 17 0) false).wp Try.prog Q a W := by
  refine wp_region_list ?_
  show wpList _ _ _ (_ :: []) _ _
  have k0 : Ev.Stay [6] a a := Ev.Stay.refl [6] a
  refine Ev.pv (N := 6) (v := .slice none 0 0) (W' := W) ?_ rfl rfl ?_
  · have ec0 : a.eval (.const (.slice none 0 0)) = .slice none 0 0 := rfl
    unfold execOp
    generalize a.eval = ev at *
    go_simp
  obtain ⟨a1, qa1⟩ : ∃ z_, z_ = a.put (some 6) (.slice none 0 0) := ⟨_, rfl⟩
  have k1 : Ev.Stay [6] a a1 := by rw [qa1]; exact k0.put (by decide) _
  have e1_6 := Ev.sam qa1 (by rw [k0.1, hsz]; decide)
  rw [← qa1]
  clear qa1 
  exact hQ _ k1 
set_option maxHeartbeats 2000000 in
theorem Rg.y1 {id : Nat} {Q : Exit → Act → World → Prop} {a : Act} {W : World} {b t : Nat}
    (hsz : a.tmps.size = 85)  (h0 : a.eval (.tmp 0) = .pointer (some ⟨b, 0, none⟩)) (hc : W.cell? ⟨b, 0, none⟩ = some (.int .i64 (t : Int)))
    (hQ : ∀ a', Ev.Stay [19, 20, 7] a a' → a'.eval (.tmp 7) = .int .i64 (t : Int) → Q .normal a' (W)) : (Code.region id (Ru.ops 17 1) false).wp Try.prog Q a W := by
  refine wp_region_list ?_
  show wpList _ _ _ (_ :: _ :: _ :: []) _ _
  have k0 : Ev.Stay [19, 20, 7] a a := Ev.Stay.refl [19, 20, 7] a
  refine Ev.pv (N := 19) (v := .pointer (some ⟨b, 0, none⟩)) (W' := W) ?_ rfl rfl ?_
  · unfold execOp
    generalize a.eval = ev at *
    go_simp
  obtain ⟨a1, qa1⟩ : ∃ z_, z_ = a.put (some 19) (.pointer (some ⟨b, 0, none⟩)) := ⟨_, rfl⟩
  have k1 : Ev.Stay [19, 20, 7] a a1 := by rw [qa1]; exact k0.put (by decide) _
  have e1_0 := Ev.oth qa1 (by decide) h0
  have e1_19 := Ev.sam qa1 (by rw [k0.1, hsz]; decide)
  rw [← qa1]
  clear qa1 
  refine Ev.pc (N := 20) (f := 15) (args := #[.pointer (some ⟨b, 0, none⟩)]) ?_ rfl rfl ((sideOf b t W hc).mono ?_)
  · have ef : a1.eval (.func 15) = .func (.func 15) #[] #[] := rfl
    unfold execOp
    generalize a1.eval = ev at *
    go_simp
  rintro e_ w_ ⟨rfl, rfl⟩
  refine ⟨_, rfl, ?_⟩
  obtain ⟨a2, qa2⟩ : ∃ z_, z_ = a1.put (some 20) (.int .i64 (t : Int)) := ⟨_, rfl⟩
  have k2 : Ev.Stay [19, 20, 7] a a2 := by rw [qa2]; exact k1.put (by decide) _
  have e2_0 := Ev.oth qa2 (by decide) e1_0
  have e2_19 := Ev.oth qa2 (by decide) e1_19
  have e2_20 := Ev.sam qa2 (by rw [k1.1, hsz]; decide)
  rw [← qa2]
  clear qa2 e1_0 e1_19
  refine Ev.pv (N := 7) (v := .int .i64 (t : Int)) (W' := W) ?_ rfl rfl ?_
  · unfold execOp
    generalize a2.eval = ev at *
    go_simp
  obtain ⟨a3, qa3⟩ : ∃ z_, z_ = a2.put (some 7) (.int .i64 (t : Int)) := ⟨_, rfl⟩
  have k3 : Ev.Stay [19, 20, 7] a a3 := by rw [qa3]; exact k2.put (by decide) _
  have e3_0 := Ev.oth qa3 (by decide) e2_0
  have e3_19 := Ev.oth qa3 (by decide) e2_19
  have e3_20 := Ev.oth qa3 (by decide) e2_20
  have e3_7 := Ev.sam qa3 (by rw [k2.1, hsz]; decide)
  rw [← qa3]
  clear qa3 e2_0 e2_19 e2_20
  exact hQ _ k3 e3_7
set_option maxHeartbeats 2000000 in
theorem Rg.y2 {id : Nat} {Q : Exit → Act → World → Prop} {a : Act} {W : World} {t wd : Nat} {A2 : Option Addr} {c2 : Nat} {lb : List Int}
    (hsz : a.tmps.size = 85)  (h2 : a.eval (.tmp 2) = .slice A2 lb.length c2) (h7 : a.eval (.tmp 7) = .int .i64 (t : Int)) (ht : 1 ≤ t ∧ t ≤ 3) (hlb : lb.length ≤ 1000) (hwd : wd = upN lb.length t * t) (hw1 : wd ≤ 1000)
    (hQ : ∀ a' nd, Ev.Stay [21, 22, 23, 24, 25, 26, 8] a a' → a'.eval (.tmp 8) = .int .i64 ((wd : Nat) : Int) → Q .normal a' (W.drewN nd)) : (Code.region id (Ru.ops 17 2) false).wp Try.prog Q a W := by
  refine wp_region_list ?_
  show wpList _ _ _ (_ :: _ :: _ :: _ :: _ :: _ :: _ :: []) _ _
  have k0 : Ev.Stay [21, 22, 23, 24, 25, 26, 8] a a := Ev.Stay.refl [21, 22, 23, 24, 25, 26, 8] a
  refine Ev.pv (N := 21) (v := .slice A2 lb.length c2) (W' := W) ?_ rfl rfl ?_
  · unfold execOp
    generalize a.eval = ev at *
    go_simp
  obtain ⟨a1, qa1⟩ : ∃ z_, z_ = a.put (some 21) (.slice A2 lb.length c2) := ⟨_, rfl⟩
  have k1 : Ev.Stay [21, 22, 23, 24, 25, 26, 8] a a1 := by rw [qa1]; exact k0.put (by decide) _
  have e1_2 := Ev.oth qa1 (by decide) h2
  have e1_7 := Ev.oth qa1 (by decide) h7
  have e1_21 := Ev.sam qa1 (by rw [k0.1, hsz]; decide)
  rw [← qa1]
  clear qa1 
  refine Ev.pv (N := 22) (v := .int .i64 (lb.length : Int)) (W' := W) ?_ rfl rfl ?_
  · unfold execOp
    generalize a1.eval = ev at *
    go_simp
  obtain ⟨a2, qa2⟩ : ∃ z_, z_ = a1.put (some 22) (.int .i64 (lb.length : Int)) := ⟨_, rfl⟩
  have k2 : Ev.Stay [21, 22, 23, 24, 25, 26, 8] a a2 := by rw [qa2]; exact k1.put (by decide) _
  have e2_2 := Ev.oth qa2 (by decide) e1_2
  have e2_7 := Ev.oth qa2 (by decide) e1_7
  have e2_21 := Ev.oth qa2 (by decide) e1_21
  have e2_22 := Ev.sam qa2 (by rw [k1.1, hsz]; decide)
  rw [← qa2]
  clear qa2 e1_2 e1_7 e1_21
  clear e2_21
  refine Ev.pv (N := 23) (v := .int .i64 (t : Int)) (W' := W) ?_ rfl rfl ?_
  · unfold execOp
    generalize a2.eval = ev at *
    go_simp
  obtain ⟨a3, qa3⟩ : ∃ z_, z_ = a2.put (some 23) (.int .i64 (t : Int)) := ⟨_, rfl⟩
  have k3 : Ev.Stay [21, 22, 23, 24, 25, 26, 8] a a3 := by rw [qa3]; exact k2.put (by decide) _
  have e3_2 := Ev.oth qa3 (by decide) e2_2
  have e3_7 := Ev.oth qa3 (by decide) e2_7
  have e3_22 := Ev.oth qa3 (by decide) e2_22
  have e3_23 := Ev.sam qa3 (by rw [k2.1, hsz]; decide)
  rw [← qa3]
  clear qa3 e2_2 e2_7 e2_22
  refine Ev.pc (N := 24) (f := 19) (args := #[.int .i64 (lb.length : Int), .int .i64 (t : Int)]) ?_ rfl rfl ((up_calls W hlb ht).mono ?_)
  · have ef : a3.eval (.func 19) = .func (.func 19) #[] #[] := rfl
    unfold execOp
    generalize a3.eval = ev at *
    go_simp
  rintro e_ w_ ⟨rfl, nd, rfl⟩
  refine ⟨_, rfl, ?_⟩
  obtain ⟨a4, qa4⟩ : ∃ z_, z_ = a3.put (some 24) (.int .i64 ((upN lb.length t : Nat) : Int)) := ⟨_, rfl⟩
  have k4 : Ev.Stay [21, 22, 23, 24, 25, 26, 8] a a4 := by rw [qa4]; exact k3.put (by decide) _
  have e4_2 := Ev.oth qa4 (by decide) e3_2
  have e4_7 := Ev.oth qa4 (by decide) e3_7
  have e4_22 := Ev.oth qa4 (by decide) e3_22
  have e4_23 := Ev.oth qa4 (by decide) e3_23
  have e4_24 := Ev.sam qa4 (by rw [k3.1, hsz]; decide)
  rw [← qa4]
  clear qa4 e3_2 e3_7 e3_22 e3_23
  refine Ev.pv (N := 25) (v := .int .i64 (t : Int)) (W' := W.drewN nd) ?_ rfl rfl ?_
  · unfold execOp
    generalize a4.eval = ev at *
    go_simp
  obtain ⟨a5, qa5⟩ : ∃ z_, z_ = a4.put (some 25) (.int .i64 (t : Int)) := ⟨_, rfl⟩
  have k5 : Ev.Stay [21, 22, 23, 24, 25, 26, 8] a a5 := by rw [qa5]; exact k4.put (by decide) _
  have e5_2 := Ev.oth qa5 (by decide) e4_2
  have e5_7 := Ev.oth qa5 (by decide) e4_7
  have e5_22 := Ev.oth qa5 (by decide) e4_22
  have e5_23 := Ev.oth qa5 (by decide) e4_23
  have e5_24 := Ev.oth qa5 (by decide) e4_24
  have e5_25 := Ev.sam qa5 (by rw [k4.1, hsz]; decide)
  rw [← qa5]
  clear qa5 e4_2 e4_7 e4_22 e4_23 e4_24
  clear e5_22
  clear e5_23
  refine Ev.pv (N := 26) (v := .int .i64 ((wd : Nat) : Int)) (W' := W.drewN nd) ?_ rfl rfl ?_
  · have e_ : ((upN lb.length t : Nat) : Int) * (t : Int) = (wd : Int) := by rw [hwd]; simp
    have w_ : wd ≤ 1000 := hw1
    clear hwd
    unfold execOp
    generalize a5.eval = ev at *
    (go_simp; try (exact wr (by omega) (by omega)))
  obtain ⟨a6, qa6⟩ : ∃ z_, z_ = a5.put (some 26) (.int .i64 ((wd : Nat) : Int)) := ⟨_, rfl⟩
  have k6 : Ev.Stay [21, 22, 23, 24, 25, 26, 8] a a6 := by rw [qa6]; exact k5.put (by decide) _
  have e6_2 := Ev.oth qa6 (by decide) e5_2
  have e6_7 := Ev.oth qa6 (by decide) e5_7
  have e6_24 := Ev.oth qa6 (by decide) e5_24
  have e6_25 := Ev.oth qa6 (by decide) e5_25
  have e6_26 := Ev.sam qa6 (by rw [k5.1, hsz]; decide)
  rw [← qa6]
  clear qa6 e5_2 e5_7 e5_24 e5_25
  clear e6_24
  clear e6_25
  refine Ev.pv (N := 8) (v := .int .i64 ((wd : Nat) : Int)) (W' := W.drewN nd) ?_ rfl rfl ?_
  · unfold execOp
    generalize a6.eval = ev at *
    go_simp
  obtain ⟨a7, qa7⟩ : ∃ z_, z_ = a6.put (some 8) (.int .i64 ((wd : Nat) : Int)) := ⟨_, rfl⟩
  have k7 : Ev.Stay [21, 22, 23, 24, 25, 26, 8] a a7 := by rw [qa7]; exact k6.put (by decide) _
  have e7_2 := Ev.oth qa7 (by decide) e6_2
  have e7_7 := Ev.oth qa7 (by decide) e6_7
  have e7_26 := Ev.oth qa7 (by decide) e6_26
  have e7_8 := Ev.sam qa7 (by rw [k6.1, hsz]; decide)
  rw [← qa7]
  clear qa7 e6_2 e6_7 e6_26
  exact hQ _ _ k7 e7_8
set_option maxHeartbeats 2000000 in
theorem Rg.y3 {id : Nat} {Q : Exit → Act → World → Prop} {a : Act} {W : World} {wd : Nat}
    (hsz : a.tmps.size = 85)  (h8 : a.eval (.tmp 8) = .int .i64 ((wd : Nat) : Int)) (hw1 : wd ≤ 1000)
    (hQ : ∀ a', Ev.Stay [27, 28, 9] a a' → a'.eval (.tmp 9) = .slice (some ⟨W.heap.size, 0, none⟩) wd wd → Q .normal a' (W.alloc (.cells (tabA wd (fun _ => 0)) 5))) : (Code.region id (Ru.ops 17 3) false).wp Try.prog Q a W := by
  refine wp_region_list ?_
  show wpList _ _ _ (_ :: _ :: _ :: []) _ _
  have k0 : Ev.Stay [27, 28, 9] a a := Ev.Stay.refl [27, 28, 9] a
  refine Ev.pv (N := 27) (v := .int .i64 ((wd : Nat) : Int)) (W' := W) ?_ rfl rfl ?_
  · unfold execOp
    generalize a.eval = ev at *
    go_simp
  obtain ⟨a1, qa1⟩ : ∃ z_, z_ = a.put (some 27) (.int .i64 ((wd : Nat) : Int)) := ⟨_, rfl⟩
  have k1 : Ev.Stay [27, 28, 9] a a1 := by rw [qa1]; exact k0.put (by decide) _
  have e1_8 := Ev.oth qa1 (by decide) h8
  have e1_27 := Ev.sam qa1 (by rw [k0.1, hsz]; decide)
  rw [← qa1]
  clear qa1 
  refine Ev.pv (N := 28) (v := .slice (some ⟨W.heap.size, 0, none⟩) wd wd) (W' := W.alloc (.cells (tabA wd (fun _ => 0)) 5)) ?_ rfl rfl ?_
  · have hm_ := run_tab W wd (by omega)
    unfold execOp
    generalize a1.eval = ev at *
    go_simp
  obtain ⟨a2, qa2⟩ : ∃ z_, z_ = a1.put (some 28) (.slice (some ⟨W.heap.size, 0, none⟩) wd wd) := ⟨_, rfl⟩
  have k2 : Ev.Stay [27, 28, 9] a a2 := by rw [qa2]; exact k1.put (by decide) _
  have e2_8 := Ev.oth qa2 (by decide) e1_8
  have e2_27 := Ev.oth qa2 (by decide) e1_27
  have e2_28 := Ev.sam qa2 (by rw [k1.1, hsz]; decide)
  rw [← qa2]
  clear qa2 e1_8 e1_27
  clear e2_27
  refine Ev.pv (N := 9) (v := .slice (some ⟨W.heap.size, 0, none⟩) wd wd) (W' := W.alloc (.cells (tabA wd (fun _ => 0)) 5)) ?_ rfl rfl ?_
  · unfold execOp
    generalize a2.eval = ev at *
    go_simp
  obtain ⟨a3, qa3⟩ : ∃ z_, z_ = a2.put (some 9) (.slice (some ⟨W.heap.size, 0, none⟩) wd wd) := ⟨_, rfl⟩
  have k3 : Ev.Stay [27, 28, 9] a a3 := by rw [qa3]; exact k2.put (by decide) _
  have e3_8 := Ev.oth qa3 (by decide) e2_8
  have e3_28 := Ev.oth qa3 (by decide) e2_28
  have e3_9 := Ev.sam qa3 (by rw [k2.1, hsz]; decide)
  rw [← qa3]
  clear qa3 e2_8 e2_28
  exact hQ _ k3 e3_9
set_option maxHeartbeats 2000000 in
theorem Rg.y8 {id : Nat} {Q : Exit → Act → World → Prop} {a : Act} {W : World} {wd : Nat}
    (hsz : a.tmps.size = 85)  (h8 : a.eval (.tmp 8) = .int .i64 ((wd : Nat) : Int)) (hw1 : wd ≤ 1000)
    (hQ : ∀ a', Ev.Stay [38, 39, 12] a a' → a'.eval (.tmp 12) = .slice (some ⟨W.heap.size, 0, none⟩) wd wd → Q .normal a' (W.alloc (.cells (tabA wd (fun _ => 0)) 5))) : (Code.region id (Ru.ops 17 8) false).wp Try.prog Q a W := by
  refine wp_region_list ?_
  show wpList _ _ _ (_ :: _ :: _ :: []) _ _
  have k0 : Ev.Stay [38, 39, 12] a a := Ev.Stay.refl [38, 39, 12] a
  refine Ev.pv (N := 38) (v := .int .i64 ((wd : Nat) : Int)) (W' := W) ?_ rfl rfl ?_
  · unfold execOp
    generalize a.eval = ev at *
    go_simp
  obtain ⟨a1, qa1⟩ : ∃ z_, z_ = a.put (some 38) (.int .i64 ((wd : Nat) : Int)) := ⟨_, rfl⟩
  have k1 : Ev.Stay [38, 39, 12] a a1 := by rw [qa1]; exact k0.put (by decide) _
  have e1_8 := Ev.oth qa1 (by decide) h8
  have e1_38 := Ev.sam qa1 (by rw [k0.1, hsz]; decide)
  rw [← qa1]
  clear qa1 
  refine Ev.pv (N := 39) (v := .slice (some ⟨W.heap.size, 0, none⟩) wd wd) (W' := W.alloc (.cells (tabA wd (fun _ => 0)) 5)) ?_ rfl rfl ?_
  · have hm_ := run_tab W wd (by omega)
    unfold execOp
    generalize a1.eval = ev at *
    go_simp
  obtain ⟨a2, qa2⟩ : ∃ z_, z_ = a1.put (some 39) (.slice (some ⟨W.heap.size, 0, none⟩) wd wd) := ⟨_, rfl⟩
  have k2 : Ev.Stay [38, 39, 12] a a2 := by rw [qa2]; exact k1.put (by decide) _
  have e2_8 := Ev.oth qa2 (by decide) e1_8
  have e2_38 := Ev.oth qa2 (by decide) e1_38
  have e2_39 := Ev.sam qa2 (by rw [k1.1, hsz]; decide)
  rw [← qa2]
  clear qa2 e1_8 e1_38
  clear e2_38
  refine Ev.pv (N := 12) (v := .slice (some ⟨W.heap.size, 0, none⟩) wd wd) (W' := W.alloc (.cells (tabA wd (fun _ => 0)) 5)) ?_ rfl rfl ?_
  · unfold execOp
    generalize a2.eval = ev at *
    go_simp
  obtain ⟨a3, qa3⟩ : ∃ z_, z_ = a2.put (some 12) (.slice (some ⟨W.heap.size, 0, none⟩) wd wd) := ⟨_, rfl⟩
  have k3 : Ev.Stay [38, 39, 12] a a3 := by rw [qa3]; exact k2.put (by decide) _
  have e3_8 := Ev.oth qa3 (by decide) e2_8
  have e3_39 := Ev.oth qa3 (by decide) e2_39
  have e3_12 := Ev.sam qa3 (by rw [k2.1, hsz]; decide)
  rw [← qa3]
  clear qa3 e2_8 e2_39
  exact hQ _ k3 e3_12
set_option maxHeartbeats 2000000 in
theorem Rg.y4 {id : Nat} {Q : Exit → Act → World → Prop} {a : Act} {W : World} {g wd : Nat}
    (hsz : a.tmps.size = 85)  (h9 : a.eval (.tmp 9) = .slice (some ⟨g, 0, none⟩) wd wd)
    (hQ : ∀ a', Ev.Stay [29, 30, 10] a a' → a'.eval (.tmp 10) = .slice (some ⟨W.heap.size, 0, none⟩) 1 1 → Q .normal a' (W.alloc (.cells #[.slice (some ⟨g, 0, none⟩) wd wd] 44))) : (Code.region id (Ru.ops 17 4) false).wp Try.prog Q a W := by
  refine wp_region_list ?_
  show wpList _ _ _ (_ :: _ :: _ :: []) _ _
  have k0 : Ev.Stay [29, 30, 10] a a := Ev.Stay.refl [29, 30, 10] a
  refine Ev.pv (N := 29) (v := .slice (some ⟨g, 0, none⟩) wd wd) (W' := W) ?_ rfl rfl ?_
  · unfold execOp
    generalize a.eval = ev at *
    go_simp
  obtain ⟨a1, qa1⟩ : ∃ z_, z_ = a.put (some 29) (.slice (some ⟨g, 0, none⟩) wd wd) := ⟨_, rfl⟩
  have k1 : Ev.Stay [29, 30, 10] a a1 := by rw [qa1]; exact k0.put (by decide) _
  have e1_9 := Ev.oth qa1 (by decide) h9
  have e1_29 := Ev.sam qa1 (by rw [k0.1, hsz]; decide)
  rw [← qa1]
  clear qa1 
  refine Ev.pv (N := 30) (v := .slice (some ⟨W.heap.size, 0, none⟩) 1 1) (W' := W.alloc (.cells #[.slice (some ⟨g, 0, none⟩) wd wd] 44)) ?_ rfl rfl ?_
  · unfold execOp
    generalize a1.eval = ev at *
    go_simp
  obtain ⟨a2, qa2⟩ : ∃ z_, z_ = a1.put (some 30) (.slice (some ⟨W.heap.size, 0, none⟩) 1 1) := ⟨_, rfl⟩
  have k2 : Ev.Stay [29, 30, 10] a a2 := by rw [qa2]; exact k1.put (by decide) _
  have e2_9 := Ev.oth qa2 (by decide) e1_9
  have e2_29 := Ev.oth qa2 (by decide) e1_29
  have e2_30 := Ev.sam qa2 (by rw [k1.1, hsz]; decide)
  rw [← qa2]
  clear qa2 e1_9 e1_29
  clear e2_29
  refine Ev.pv (N := 10) (v := .slice (some ⟨W.heap.size, 0, none⟩) 1 1) (W' := W.alloc (.cells #[.slice (some ⟨g, 0, none⟩) wd wd] 44)) ?_ rfl rfl ?_
  · unfold execOp
    generalize a2.eval = ev at *
    go_simp
  obtain ⟨a3, qa3⟩ : ∃ z_, z_ = a2.put (some 10) (.slice (some ⟨W.heap.size, 0, none⟩) 1 1) := ⟨_, rfl⟩
  have k3 : Ev.Stay [29, 30, 10] a a3 := by rw [qa3]; exact k2.put (by decide) _
  have e3_9 := Ev.oth qa3 (by decide) e2_9
  have e3_30 := Ev.oth qa3 (by decide) e2_30
  have e3_10 := Ev.sam qa3 (by rw [k2.1, hsz]; decide)
  rw [← qa3]
  clear qa3 e2_9 e2_30
  exact hQ _ k3 e3_10
set_option maxHeartbeats 2000000 in
theorem Rg.y5 {id : Nat} {Q : Exit → Act → World → Prop} {a : Act} {W : World} 
    (hsz : a.tmps.size = 85)  
    (hQ : ∀ a', Ev.Stay [11] a a' → a'.eval (.tmp 11) = .int .i64 (0) → Q .normal a' (W)) : (Code.region id (Ru.ops 17 5) false).wp Try.prog Q a W := by
  refine wp_region_list ?_
  show wpList _ _ _ (_ :: []) _ _
  have k0 : Ev.Stay [11] a a := Ev.Stay.refl [11] a
  refine Ev.pv (N := 11) (v := .int .i64 (0)) (W' := W) ?_ rfl rfl ?_
  · have ec0 : a.eval (.const (.int .i64 (0))) = .int .i64 (0) := rfl
    unfold execOp
    generalize a.eval = ev at *
    go_simp
  obtain ⟨a1, qa1⟩ : ∃ z_, z_ = a.put (some 11) (.int .i64 (0)) := ⟨_, rfl⟩
  have k1 : Ev.Stay [11] a a1 := by rw [qa1]; exact k0.put (by decide) _
  have e1_11 := Ev.sam qa1 (by rw [k0.1, hsz]; decide)
  rw [← qa1]
  clear qa1 
  exact hQ _ k1 e1_11
set_option maxHeartbeats 2000000 in
theorem Rg.y9 {id : Nat} {Q : Exit → Act → World → Prop} {a : Act} {W : World} 
    (hsz : a.tmps.size = 85)  
    (hQ : ∀ a', Ev.Stay [13] a a' → a'.eval (.tmp 13) = .int .i64 (0) → Q .normal a' (W)) : (Code.region id (Ru.ops 17 9) false).wp Try.prog Q a W := by
  refine wp_region_list ?_
  show wpList _ _ _ (_ :: []) _ _
  have k0 : Ev.Stay [13] a a := Ev.Stay.refl [13] a
  refine Ev.pv (N := 13) (v := .int .i64 (0)) (W' := W) ?_ rfl rfl ?_
  · have ec0 : a.eval (.const (.int .i64 (0))) = .int .i64 (0) := rfl
    unfold execOp
    generalize a.eval = ev at *
    go_simp
  obtain ⟨a1, qa1⟩ : ∃ z_, z_ = a.put (some 13) (.int .i64 (0)) := ⟨_, rfl⟩
  have k1 : Ev.Stay [13] a a1 := by rw [qa1]; exact k0.put (by decide) _
  have e1_13 := Ev.sam qa1 (by rw [k0.1, hsz]; decide)
  rw [← qa1]
  clear qa1 
  exact hQ _ k1 e1_13
set_option maxHeartbeats 2000000 in
theorem Rg.y10 {id : Nat} {Q : Exit → Act → World → Prop} {a : Act} {W : World} 
    (hsz : a.tmps.size = 85)  
    (hQ : ∀ a', Ev.Stay [14] a a' → a'.eval (.tmp 14) = .int .i64 (0) → Q .normal a' (W)) : (Code.region id (Ru.ops 17 10) false).wp Try.prog Q a W := by
  refine wp_region_list ?_
  show wpList _ _ _ (_ :: []) _ _
  have k0 : Ev.Stay [14] a a := Ev.Stay.refl [14] a
  refine Ev.pv (N := 14) (v := .int .i64 (0)) (W' := W) ?_ rfl rfl ?_
  · have ec0 : a.eval (.const (.int .i64 (0))) = .int .i64 (0) := rfl
    unfold execOp
    generalize a.eval = ev at *
    go_simp
  obtain ⟨a1, qa1⟩ : ∃ z_, z_ = a.put (some 14) (.int .i64 (0)) := ⟨_, rfl⟩
  have k1 : Ev.Stay [14] a a1 := by rw [qa1]; exact k0.put (by decide) _
  have e1_14 := Ev.sam qa1 (by rw [k0.1, hsz]; decide)
  rw [← qa1]
  clear qa1 
  exact hQ _ k1 e1_14
set_option maxHeartbeats 2000000 in
theorem Rg.y6 {id : Nat} {Q : Exit → Act → World → Prop} {a : Act} {W : World} {i : Nat} {A1 : Option Addr} {c1 : Nat} {la : List Int}
    (hsz : a.tmps.size = 85)  (h11 : a.eval (.tmp 11) = .int .i64 (i : Int)) (h1 : a.eval (.tmp 1) = .slice A1 la.length c1)
    (hQ : ∀ a', Ev.Stay [31, 32, 33, 34] a a' → a'.eval (.tmp 34) = .bool (decide (i < la.length)) → Q .normal a' (W)) : (Code.region id (Ru.ops 17 6) false).wp Try.prog Q a W := by
  refine wp_region_list ?_
  show wpList _ _ _ (_ :: _ :: _ :: _ :: []) _ _
  have k0 : Ev.Stay [31, 32, 33, 34] a a := Ev.Stay.refl [31, 32, 33, 34] a
  refine Ev.pv (N := 31) (v := .int .i64 (i : Int)) (W' := W) ?_ rfl rfl ?_
  · unfold execOp
    generalize a.eval = ev at *
    go_simp
  obtain ⟨a1, qa1⟩ : ∃ z_, z_ = a.put (some 31) (.int .i64 (i : Int)) := ⟨_, rfl⟩
  have k1 : Ev.Stay [31, 32, 33, 34] a a1 := by rw [qa1]; exact k0.put (by decide) _
  have e1_11 := Ev.oth qa1 (by decide) h11
  have e1_1 := Ev.oth qa1 (by decide) h1
  have e1_31 := Ev.sam qa1 (by rw [k0.1, hsz]; decide)
  rw [← qa1]
  clear qa1 
  refine Ev.pv (N := 32) (v := .slice A1 la.length c1) (W' := W) ?_ rfl rfl ?_
  · unfold execOp
    generalize a1.eval = ev at *
    go_simp
  obtain ⟨a2, qa2⟩ : ∃ z_, z_ = a1.put (some 32) (.slice A1 la.length c1) := ⟨_, rfl⟩
  have k2 : Ev.Stay [31, 32, 33, 34] a a2 := by rw [qa2]; exact k1.put (by decide) _
  have e2_11 := Ev.oth qa2 (by decide) e1_11
  have e2_1 := Ev.oth qa2 (by decide) e1_1
  have e2_31 := Ev.oth qa2 (by decide) e1_31
  have e2_32 := Ev.sam qa2 (by rw [k1.1, hsz]; decide)
  rw [← qa2]
  clear qa2 e1_11 e1_1 e1_31
  refine Ev.pv (N := 33) (v := .int .i64 (la.length : Int)) (W' := W) ?_ rfl rfl ?_
  · unfold execOp
    generalize a2.eval = ev at *
    go_simp
  obtain ⟨a3, qa3⟩ : ∃ z_, z_ = a2.put (some 33) (.int .i64 (la.length : Int)) := ⟨_, rfl⟩
  have k3 : Ev.Stay [31, 32, 33, 34] a a3 := by rw [qa3]; exact k2.put (by decide) _
  have e3_11 := Ev.oth qa3 (by decide) e2_11
  have e3_1 := Ev.oth qa3 (by decide) e2_1
  have e3_31 := Ev.oth qa3 (by decide) e2_31
  have e3_32 := Ev.oth qa3 (by decide) e2_32
  have e3_33 := Ev.sam qa3 (by rw [k2.1, hsz]; decide)
  rw [← qa3]
  clear qa3 e2_11 e2_1 e2_31 e2_32
  clear e3_32
  refine Ev.pv (N := 34) (v := .bool (decide (i < la.length))) (W' := W) ?_ rfl rfl ?_
  · unfold execOp
    generalize a3.eval = ev at *
    (go_simp; try (rw [Bool.eq_iff_iff]; simp))
  obtain ⟨a4, qa4⟩ : ∃ z_, z_ = a3.put (some 34) (.bool (decide (i < la.length))) := ⟨_, rfl⟩
  have k4 : Ev.Stay [31, 32, 33, 34] a a4 := by rw [qa4]; exact k3.put (by decide) _
  have e4_11 := Ev.oth qa4 (by decide) e3_11
  have e4_1 := Ev.oth qa4 (by decide) e3_1
  have e4_31 := Ev.oth qa4 (by decide) e3_31
  have e4_33 := Ev.oth qa4 (by decide) e3_33
  have e4_34 := Ev.sam qa4 (by rw [k3.1, hsz]; decide)
  rw [← qa4]
  clear qa4 e3_11 e3_1 e3_31 e3_33
  exact hQ _ k4 e4_34
set_option maxHeartbeats 2000000 in
theorem Rg.y11 {id : Nat} {Q : Exit → Act → World → Prop} {a : Act} {W : World} {j wd : Nat}
    (hsz : a.tmps.size = 85)  (h14 : a.eval (.tmp 14) = .int .i64 (j : Int)) (h8 : a.eval (.tmp 8) = .int .i64 (wd : Int))
    (hQ : ∀ a', Ev.Stay [40, 41, 42] a a' → a'.eval (.tmp 42) = .bool (decide (j < wd)) → Q .normal a' (W)) : (Code.region id (Ru.ops 17 11) false).wp Try.prog Q a W := by
  refine wp_region_list ?_
  show wpList _ _ _ (_ :: _ :: _ :: []) _ _
  have k0 : Ev.Stay [40, 41, 42] a a := Ev.Stay.refl [40, 41, 42] a
  refine Ev.pv (N := 40) (v := .int .i64 (j : Int)) (W' := W) ?_ rfl rfl ?_
  · unfold execOp
    generalize a.eval = ev at *
    go_simp
  obtain ⟨a1, qa1⟩ : ∃ z_, z_ = a.put (some 40) (.int .i64 (j : Int)) := ⟨_, rfl⟩
  have k1 : Ev.Stay [40, 41, 42] a a1 := by rw [qa1]; exact k0.put (by decide) _
  have e1_14 := Ev.oth qa1 (by decide) h14
  have e1_8 := Ev.oth qa1 (by decide) h8
  have e1_40 := Ev.sam qa1 (by rw [k0.1, hsz]; decide)
  rw [← qa1]
  clear qa1 
  refine Ev.pv (N := 41) (v := .int .i64 (wd : Int)) (W' := W) ?_ rfl rfl ?_
  · unfold execOp
    generalize a1.eval = ev at *
    go_simp
  obtain ⟨a2, qa2⟩ : ∃ z_, z_ = a1.put (some 41) (.int .i64 (wd : Int)) := ⟨_, rfl⟩
  have k2 : Ev.Stay [40, 41, 42] a a2 := by rw [qa2]; exact k1.put (by decide) _
  have e2_14 := Ev.oth qa2 (by decide) e1_14
  have e2_8 := Ev.oth qa2 (by decide) e1_8
  have e2_40 := Ev.oth qa2 (by decide) e1_40
  have e2_41 := Ev.sam qa2 (by rw [k1.1, hsz]; decide)
  rw [← qa2]
  clear qa2 e1_14 e1_8 e1_40
  refine Ev.pv (N := 42) (v := .bool (decide (j < wd))) (W' := W) ?_ rfl rfl ?_
  · unfold execOp
    generalize a2.eval = ev at *
    (go_simp; try (rw [Bool.eq_iff_iff]; simp))
  obtain ⟨a3, qa3⟩ : ∃ z_, z_ = a2.put (some 42) (.bool (decide (j < wd))) := ⟨_, rfl⟩
  have k3 : Ev.Stay [40, 41, 42] a a3 := by rw [qa3]; exact k2.put (by decide) _
  have e3_14 := Ev.oth qa3 (by decide) e2_14
  have e3_8 := Ev.oth qa3 (by decide) e2_8
  have e3_40 := Ev.oth qa3 (by decide) e2_40
  have e3_41 := Ev.oth qa3 (by decide) e2_41
  have e3_42 := Ev.sam qa3 (by rw [k2.1, hsz]; decide)
  rw [← qa3]
  clear qa3 e2_14 e2_8 e2_40 e2_41
  exact hQ _ k3 e3_42
set_option maxHeartbeats 2000000 in
theorem Rg.y13 {id : Nat} {Q : Exit → Act → World → Prop} {a : Act} {W : World} {b i j t g wd : Nat} {A1 A2 : Option Addr} {c1 c2 : Nat} {la lb : List Int} {q p l bo ri : Int} {RR : World → Prop}
    (hsz : a.tmps.size = 85)  (h0 : a.eval (.tmp 0) = .pointer (some ⟨b, 0, none⟩)) (h1 : a.eval (.tmp 1) = .slice A1 la.length c1) (h2 : a.eval (.tmp 2) = .slice A2 lb.length c2) (h11 : a.eval (.tmp 11) = .int .i64 (i : Int)) (h14 : a.eval (.tmp 14) = .int .i64 (j : Int)) (h7 : a.eval (.tmp 7) = .int .i64 (t : Int)) (h9 : a.eval (.tmp 9) = .slice (some ⟨g, 0, none⟩) wd wd) (h13 : a.eval (.tmp 13) = .int .i64 (l)) (g1 : Calls Try.prog 24 #[.slice A1 la.length c1, .slice A2 lb.length c2, .int .i64 (i : Int), .int .i64 (j : Int), .int .i64 (t : Int)] W fun e w' => e = .returned (.int .i64 (q)) ∧ ∃ n, w' = W.drewN n) (g2 : ∀ n1, Calls Try.prog 25 #[.slice (some ⟨g, 0, none⟩) wd wd, .int .i64 (j : Int), .int .i64 (t : Int)] (W.drewN n1) fun e w' => e = .returned (.int .i64 (p)) ∧ ∃ n, w' = (W.drewN n1).drewN n) (g3 : ∀ n1 n2, Calls Try.prog 23 #[.pointer (some ⟨b, 0, none⟩), .int .i64 (q), .int .i64 (p), .int .i64 (l)] ((W.drewN n1).drewN n2) fun e w' => e = .returned (.tuple #[.int .i64 (bo), .int .i64 (ri), .int .i64 (0)]) ∧ RR w')
    (hQ : ∀ a' W', Ev.Stay [46, 15, 16, 17, 47, 48, 49, 50, 51, 52, 53, 54, 55, 56, 57, 58, 59, 60, 61, 62] a a' → a'.eval (.tmp 15) = .int .i64 (bo) → a'.eval (.tmp 16) = .int .i64 (ri) → RR W' → Q .normal a' W') : (Code.region id (Ru.ops 17 13) false).wp Try.prog Q a W := by
  refine wp_region_list ?_
  show wpList _ _ _ (_ :: _ :: _ :: _ :: _ :: _ :: _ :: _ :: _ :: _ :: _ :: _ :: _ :: _ :: _ :: _ :: _ :: _ :: _ :: _ :: []) _ _
  have k0 : Ev.Stay [46, 15, 16, 17, 47, 48, 49, 50, 51, 52, 53, 54, 55, 56, 57, 58, 59, 60, 61, 62] a a := Ev.Stay.refl [46, 15, 16, 17, 47, 48, 49, 50, 51, 52, 53, 54, 55, 56, 57, 58, 59, 60, 61, 62] a
  refine Ev.pv (N := 47) (v := .pointer (some ⟨b, 0, none⟩)) (W' := W) ?_ rfl rfl ?_
  · unfold execOp
    generalize a.eval = ev at *
    go_simp
  obtain ⟨a1, qa1⟩ : ∃ z_, z_ = a.put (some 47) (.pointer (some ⟨b, 0, none⟩)) := ⟨_, rfl⟩
  have k1 : Ev.Stay [46, 15, 16, 17, 47, 48, 49, 50, 51, 52, 53, 54, 55, 56, 57, 58, 59, 60, 61, 62] a a1 := by rw [qa1]; exact k0.put (by decide) _
  have e1_0 := Ev.oth qa1 (by decide) h0
  have e1_1 := Ev.oth qa1 (by decide) h1
  have e1_2 := Ev.oth qa1 (by decide) h2
  have e1_11 := Ev.oth qa1 (by decide) h11
  have e1_14 := Ev.oth qa1 (by decide) h14
  have e1_7 := Ev.oth qa1 (by decide) h7
  have e1_9 := Ev.oth qa1 (by decide) h9
  have e1_13 := Ev.oth qa1 (by decide) h13
  have e1_47 := Ev.sam qa1 (by rw [k0.1, hsz]; decide)
  rw [← qa1]
  clear qa1 
  refine Ev.pv (N := 48) (v := .slice A1 la.length c1) (W' := W) ?_ rfl rfl ?_
  · unfold execOp
    generalize a1.eval = ev at *
    go_simp
  obtain ⟨a2, qa2⟩ : ∃ z_, z_ = a1.put (some 48) (.slice A1 la.length c1) := ⟨_, rfl⟩
  have k2 : Ev.Stay [46, 15, 16, 17, 47, 48, 49, 50, 51, 52, 53, 54, 55, 56, 57, 58, 59, 60, 61, 62] a a2 := by rw [qa2]; exact k1.put (by decide) _
  have e2_0 := Ev.oth qa2 (by decide) e1_0
  have e2_1 := Ev.oth qa2 (by decide) e1_1
  have e2_2 := Ev.oth qa2 (by decide) e1_2
  have e2_11 := Ev.oth qa2 (by decide) e1_11
  have e2_14 := Ev.oth qa2 (by decide) e1_14
  have e2_7 := Ev.oth qa2 (by decide) e1_7
  have e2_9 := Ev.oth qa2 (by decide) e1_9
  have e2_13 := Ev.oth qa2 (by decide) e1_13
  have e2_47 := Ev.oth qa2 (by decide) e1_47
  have e2_48 := Ev.sam qa2 (by rw [k1.1, hsz]; decide)
  rw [← qa2]
  clear qa2 e1_0 e1_1 e1_2 e1_11 e1_14 e1_7 e1_9 e1_13 e1_47
  refine Ev.pv (N := 49) (v := .slice A2 lb.length c2) (W' := W) ?_ rfl rfl ?_
  · unfold execOp
    generalize a2.eval = ev at *
    go_simp
  obtain ⟨a3, qa3⟩ : ∃ z_, z_ = a2.put (some 49) (.slice A2 lb.length c2) := ⟨_, rfl⟩
  have k3 : Ev.Stay [46, 15, 16, 17, 47, 48, 49, 50, 51, 52, 53, 54, 55, 56, 57, 58, 59, 60, 61, 62] a a3 := by rw [qa3]; exact k2.put (by decide) _
  have e3_0 := Ev.oth qa3 (by decide) e2_0
  have e3_1 := Ev.oth qa3 (by decide) e2_1
  have e3_2 := Ev.oth qa3 (by decide) e2_2
  have e3_11 := Ev.oth qa3 (by decide) e2_11
  have e3_14 := Ev.oth qa3 (by decide) e2_14
  have e3_7 := Ev.oth qa3 (by decide) e2_7
  have e3_9 := Ev.oth qa3 (by decide) e2_9
  have e3_13 := Ev.oth qa3 (by decide) e2_13
  have e3_47 := Ev.oth qa3 (by decide) e2_47
  have e3_48 := Ev.oth qa3 (by decide) e2_48
  have e3_49 := Ev.sam qa3 (by rw [k2.1, hsz]; decide)
  rw [← qa3]
  clear qa3 e2_0 e2_1 e2_2 e2_11 e2_14 e2_7 e2_9 e2_13 e2_47 e2_48
  refine Ev.pv (N := 50) (v := .int .i64 (i : Int)) (W' := W) ?_ rfl rfl ?_
  · unfold execOp
    generalize a3.eval = ev at *
    go_simp
  obtain ⟨a4, qa4⟩ : ∃ z_, z_ = a3.put (some 50) (.int .i64 (i : Int)) := ⟨_, rfl⟩
  have k4 : Ev.Stay [46, 15, 16, 17, 47, 48, 49, 50, 51, 52, 53, 54, 55, 56, 57, 58, 59, 60, 61, 62] a a4 := by rw [qa4]; exact k3.put (by decide) _
  have e4_0 := Ev.oth qa4 (by decide) e3_0
  have e4_1 := Ev.oth qa4 (by decide) e3_1
  have e4_2 := Ev.oth qa4 (by decide) e3_2
  have e4_11 := Ev.oth qa4 (by decide) e3_11
  have e4_14 := Ev.oth qa4 (by decide) e3_14
  have e4_7 := Ev.oth qa4 (by decide) e3_7
  have e4_9 := Ev.oth qa4 (by decide) e3_9
  have e4_13 := Ev.oth qa4 (by decide) e3_13
  have e4_47 := Ev.oth qa4 (by decide) e3_47
  have e4_48 := Ev.oth qa4 (by decide) e3_48
  have e4_49 := Ev.oth qa4 (by decide) e3_49
  have e4_50 := Ev.sam qa4 (by rw [k3.1, hsz]; decide)
  rw [← qa4]
  clear qa4 e3_0 e3_1 e3_2 e3_11 e3_14 e3_7 e3_9 e3_13 e3_47 e3_48 e3_49
  refine Ev.pv (N := 51) (v := .int .i64 (j : Int)) (W' := W) ?_ rfl rfl ?_
  · unfold execOp
    generalize a4.eval = ev at *
    go_simp
  obtain ⟨a5, qa5⟩ : ∃ z_, z_ = a4.put (some 51) (.int .i64 (j : Int)) := ⟨_, rfl⟩
  have k5 : Ev.Stay [46, 15, 16, 17, 47, 48, 49, 50, 51, 52, 53, 54, 55, 56, 57, 58, 59, 60, 61, 62] a a5 := by rw [qa5]; exact k4.put (by decide) _
  have e5_0 := Ev.oth qa5 (by decide) e4_0
  have e5_1 := Ev.oth qa5 (by decide) e4_1
  have e5_2 := Ev.oth qa5 (by decide) e4_2
  have e5_11 := Ev.oth qa5 (by decide) e4_11
  have e5_14 := Ev.oth qa5 (by decide) e4_14
  have e5_7 := Ev.oth qa5 (by decide) e4_7
  have e5_9 := Ev.oth qa5 (by decide) e4_9
  have e5_13 := Ev.oth qa5 (by decide) e4_13
  have e5_47 := Ev.oth qa5 (by decide) e4_47
  have e5_48 := Ev.oth qa5 (by decide) e4_48
  have e5_49 := Ev.oth qa5 (by decide) e4_49
  have e5_50 := Ev.oth qa5 (by decide) e4_50
  have e5_51 := Ev.sam qa5 (by rw [k4.1, hsz]; decide)
  rw [← qa5]
  clear qa5 e4_0 e4_1 e4_2 e4_11 e4_14 e4_7 e4_9 e4_13 e4_47 e4_48 e4_49 e4_50
  refine Ev.pv (N := 52) (v := .int .i64 (t : Int)) (W' := W) ?_ rfl rfl ?_
  · unfold execOp
    generalize a5.eval = ev at *
    go_simp
  obtain ⟨a6, qa6⟩ : ∃ z_, z_ = a5.put (some 52) (.int .i64 (t : Int)) := ⟨_, rfl⟩
  have k6 : Ev.Stay [46, 15, 16, 17, 47, 48, 49, 50, 51, 52, 53, 54, 55, 56, 57, 58, 59, 60, 61, 62] a a6 := by rw [qa6]; exact k5.put (by decide) _
  have e6_0 := Ev.oth qa6 (by decide) e5_0
  have e6_1 := Ev.oth qa6 (by decide) e5_1
  have e6_2 := Ev.oth qa6 (by decide) e5_2
  have e6_11 := Ev.oth qa6 (by decide) e5_11
  have e6_14 := Ev.oth qa6 (by decide) e5_14
  have e6_7 := Ev.oth qa6 (by decide) e5_7
  have e6_9 := Ev.oth qa6 (by decide) e5_9
  have e6_13 := Ev.oth qa6 (by decide) e5_13
  have e6_47 := Ev.oth qa6 (by decide) e5_47
  have e6_48 := Ev.oth qa6 (by decide) e5_48
  have e6_49 := Ev.oth qa6 (by decide) e5_49
  have e6_50 := Ev.oth qa6 (by decide) e5_50
  have e6_51 := Ev.oth qa6 (by decide) e5_51
  have e6_52 := Ev.sam qa6 (by rw [k5.1, hsz]; decide)
  rw [← qa6]
  clear qa6 e5_0 e5_1 e5_2 e5_11 e5_14 e5_7 e5_9 e5_13 e5_47 e5_48 e5_49 e5_50 e5_51
  refine Ev.pc (N := 53) (f := 24) (args := #[.slice A1 la.length c1, .slice A2 lb.length c2, .int .i64 (i : Int), .int .i64 (j : Int), .int .i64 (t : Int)]) ?_ rfl rfl (g1.mono ?_)
  · have ef : a6.eval (.func 24) = .func (.func 24) #[] #[] := rfl
    unfold execOp
    generalize a6.eval = ev at *
    go_simp
  rintro e_ w_ ⟨rfl, n1, rfl⟩
  refine ⟨_, rfl, ?_⟩
  obtain ⟨a7, qa7⟩ : ∃ z_, z_ = a6.put (some 53) (.int .i64 (q)) := ⟨_, rfl⟩
  have k7 : Ev.Stay [46, 15, 16, 17, 47, 48, 49, 50, 51, 52, 53, 54, 55, 56, 57, 58, 59, 60, 61, 62] a a7 := by rw [qa7]; exact k6.put (by decide) _
  have e7_0 := Ev.oth qa7 (by decide) e6_0
  have e7_1 := Ev.oth qa7 (by decide) e6_1
  have e7_2 := Ev.oth qa7 (by decide) e6_2
  have e7_11 := Ev.oth qa7 (by decide) e6_11
  have e7_14 := Ev.oth qa7 (by decide) e6_14
  have e7_7 := Ev.oth qa7 (by decide) e6_7
  have e7_9 := Ev.oth qa7 (by decide) e6_9
  have e7_13 := Ev.oth qa7 (by decide) e6_13
  have e7_47 := Ev.oth qa7 (by decide) e6_47
  have e7_48 := Ev.oth qa7 (by decide) e6_48
  have e7_49 := Ev.oth qa7 (by decide) e6_49
  have e7_50 := Ev.oth qa7 (by decide) e6_50
  have e7_51 := Ev.oth qa7 (by decide) e6_51
  have e7_52 := Ev.oth qa7 (by decide) e6_52
  have e7_53 := Ev.sam qa7 (by rw [k6.1, hsz]; decide)
  rw [← qa7]
  clear qa7 e6_0 e6_1 e6_2 e6_11 e6_14 e6_7 e6_9 e6_13 e6_47 e6_48 e6_49 e6_50 e6_51 e6_52
  clear e7_48
  clear e7_49
  clear e7_50
  clear e7_51
  clear e7_52
  refine Ev.pv (N := 54) (v := .slice (some ⟨g, 0, none⟩) wd wd) (W' := W.drewN n1) ?_ rfl rfl ?_
  · unfold execOp
    generalize a7.eval = ev at *
    go_simp
  obtain ⟨a8, qa8⟩ : ∃ z_, z_ = a7.put (some 54) (.slice (some ⟨g, 0, none⟩) wd wd) := ⟨_, rfl⟩
  have k8 : Ev.Stay [46, 15, 16, 17, 47, 48, 49, 50, 51, 52, 53, 54, 55, 56, 57, 58, 59, 60, 61, 62] a a8 := by rw [qa8]; exact k7.put (by decide) _
  have e8_0 := Ev.oth qa8 (by decide) e7_0
  have e8_1 := Ev.oth qa8 (by decide) e7_1
  have e8_2 := Ev.oth qa8 (by decide) e7_2
  have e8_11 := Ev.oth qa8 (by decide) e7_11
  have e8_14 := Ev.oth qa8 (by decide) e7_14
  have e8_7 := Ev.oth qa8 (by decide) e7_7
  have e8_9 := Ev.oth qa8 (by decide) e7_9
  have e8_13 := Ev.oth qa8 (by decide) e7_13
  have e8_47 := Ev.oth qa8 (by decide) e7_47
  have e8_53 := Ev.oth qa8 (by decide) e7_53
  have e8_54 := Ev.sam qa8 (by rw [k7.1, hsz]; decide)
  rw [← qa8]
  clear qa8 e7_0 e7_1 e7_2 e7_11 e7_14 e7_7 e7_9 e7_13 e7_47 e7_53
  refine Ev.pv (N := 55) (v := .int .i64 (j : Int)) (W' := W.drewN n1) ?_ rfl rfl ?_
  · unfold execOp
    generalize a8.eval = ev at *
    go_simp
  obtain ⟨a9, qa9⟩ : ∃ z_, z_ = a8.put (some 55) (.int .i64 (j : Int)) := ⟨_, rfl⟩
  have k9 : Ev.Stay [46, 15, 16, 17, 47, 48, 49, 50, 51, 52, 53, 54, 55, 56, 57, 58, 59, 60, 61, 62] a a9 := by rw [qa9]; exact k8.put (by decide) _
  have e9_0 := Ev.oth qa9 (by decide) e8_0
  have e9_1 := Ev.oth qa9 (by decide) e8_1
  have e9_2 := Ev.oth qa9 (by decide) e8_2
  have e9_11 := Ev.oth qa9 (by decide) e8_11
  have e9_14 := Ev.oth qa9 (by decide) e8_14
  have e9_7 := Ev.oth qa9 (by decide) e8_7
  have e9_9 := Ev.oth qa9 (by decide) e8_9
  have e9_13 := Ev.oth qa9 (by decide) e8_13
  have e9_47 := Ev.oth qa9 (by decide) e8_47
  have e9_53 := Ev.oth qa9 (by decide) e8_53
  have e9_54 := Ev.oth qa9 (by decide) e8_54
  have e9_55 := Ev.sam qa9 (by rw [k8.1, hsz]; decide)
  rw [← qa9]
  clear qa9 e8_0 e8_1 e8_2 e8_11 e8_14 e8_7 e8_9 e8_13 e8_47 e8_53 e8_54
  refine Ev.pv (N := 56) (v := .int .i64 (t : Int)) (W' := W.drewN n1) ?_ rfl rfl ?_
  · unfold execOp
    generalize a9.eval = ev at *
    go_simp
  obtain ⟨a10, qa10⟩ : ∃ z_, z_ = a9.put (some 56) (.int .i64 (t : Int)) := ⟨_, rfl⟩
  have k10 : Ev.Stay [46, 15, 16, 17, 47, 48, 49, 50, 51, 52, 53, 54, 55, 56, 57, 58, 59, 60, 61, 62] a a10 := by rw [qa10]; exact k9.put (by decide) _
  have e10_0 := Ev.oth qa10 (by decide) e9_0
  have e10_1 := Ev.oth qa10 (by decide) e9_1
  have e10_2 := Ev.oth qa10 (by decide) e9_2
  have e10_11 := Ev.oth qa10 (by decide) e9_11
  have e10_14 := Ev.oth qa10 (by decide) e9_14
  have e10_7 := Ev.oth qa10 (by decide) e9_7
  have e10_9 := Ev.oth qa10 (by decide) e9_9
  have e10_13 := Ev.oth qa10 (by decide) e9_13
  have e10_47 := Ev.oth qa10 (by decide) e9_47
  have e10_53 := Ev.oth qa10 (by decide) e9_53
  have e10_54 := Ev.oth qa10 (by decide) e9_54
  have e10_55 := Ev.oth qa10 (by decide) e9_55
  have e10_56 := Ev.sam qa10 (by rw [k9.1, hsz]; decide)
  rw [← qa10]
  clear qa10 e9_0 e9_1 e9_2 e9_11 e9_14 e9_7 e9_9 e9_13 e9_47 e9_53 e9_54 e9_55
  refine Ev.pc (N := 57) (f := 25) (args := #[.slice (some ⟨g, 0, none⟩) wd wd, .int .i64 (j : Int), .int .i64 (t : Int)]) ?_ rfl rfl ((g2 n1).mono ?_)
  · have ef : a10.eval (.func 25) = .func (.func 25) #[] #[] := rfl
    unfold execOp
    generalize a10.eval = ev at *
    go_simp
  rintro e_ w_ ⟨rfl, n2, rfl⟩
  refine ⟨_, rfl, ?_⟩
  obtain ⟨a11, qa11⟩ : ∃ z_, z_ = a10.put (some 57) (.int .i64 (p)) := ⟨_, rfl⟩
  have k11 : Ev.Stay [46, 15, 16, 17, 47, 48, 49, 50, 51, 52, 53, 54, 55, 56, 57, 58, 59, 60, 61, 62] a a11 := by rw [qa11]; exact k10.put (by decide) _
  have e11_0 := Ev.oth qa11 (by decide) e10_0
  have e11_1 := Ev.oth qa11 (by decide) e10_1
  have e11_2 := Ev.oth qa11 (by decide) e10_2
  have e11_11 := Ev.oth qa11 (by decide) e10_11
  have e11_14 := Ev.oth qa11 (by decide) e10_14
  have e11_7 := Ev.oth qa11 (by decide) e10_7
  have e11_9 := Ev.oth qa11 (by decide) e10_9
  have e11_13 := Ev.oth qa11 (by decide) e10_13
  have e11_47 := Ev.oth qa11 (by decide) e10_47
  have e11_53 := Ev.oth qa11 (by decide) e10_53
  have e11_54 := Ev.oth qa11 (by decide) e10_54
  have e11_55 := Ev.oth qa11 (by decide) e10_55
  have e11_56 := Ev.oth qa11 (by decide) e10_56
  have e11_57 := Ev.sam qa11 (by rw [k10.1, hsz]; decide)
  rw [← qa11]
  clear qa11 e10_0 e10_1 e10_2 e10_11 e10_14 e10_7 e10_9 e10_13 e10_47 e10_53 e10_54 e10_55 e10_56
  clear e11_54
  clear e11_55
  clear e11_56
  refine Ev.pv (N := 58) (v := .int .i64 (l)) (W' := (W.drewN n1).drewN n2) ?_ rfl rfl ?_
  · unfold execOp
    generalize a11.eval = ev at *
    go_simp
  obtain ⟨a12, qa12⟩ : ∃ z_, z_ = a11.put (some 58) (.int .i64 (l)) := ⟨_, rfl⟩
  have k12 : Ev.Stay [46, 15, 16, 17, 47, 48, 49, 50, 51, 52, 53, 54, 55, 56, 57, 58, 59, 60, 61, 62] a a12 := by rw [qa12]; exact k11.put (by decide) _
  have e12_0 := Ev.oth qa12 (by decide) e11_0
  have e12_1 := Ev.oth qa12 (by decide) e11_1
  have e12_2 := Ev.oth qa12 (by decide) e11_2
  have e12_11 := Ev.oth qa12 (by decide) e11_11
  have e12_14 := Ev.oth qa12 (by decide) e11_14
  have e12_7 := Ev.oth qa12 (by decide) e11_7
  have e12_9 := Ev.oth qa12 (by decide) e11_9
  have e12_13 := Ev.oth qa12 (by decide) e11_13
  have e12_47 := Ev.oth qa12 (by decide) e11_47
  have e12_53 := Ev.oth qa12 (by decide) e11_53
  have e12_57 := Ev.oth qa12 (by decide) e11_57
  have e12_58 := Ev.sam qa12 (by rw [k11.1, hsz]; decide)
  rw [← qa12]
  clear qa12 e11_0 e11_1 e11_2 e11_11 e11_14 e11_7 e11_9 e11_13 e11_47 e11_53 e11_57
  refine Ev.pc (N := 59) (f := 23) (args := #[.pointer (some ⟨b, 0, none⟩), .int .i64 (q), .int .i64 (p), .int .i64 (l)]) ?_ rfl rfl ((g3 n1 n2).mono ?_)
  · have ef : a12.eval (.func 23) = .func (.func 23) #[] #[] := rfl
    unfold execOp
    generalize a12.eval = ev at *
    go_simp
  rintro e_ w_ ⟨rfl, hR⟩
  refine ⟨_, rfl, ?_⟩
  obtain ⟨a13, qa13⟩ : ∃ z_, z_ = a12.put (some 59) (.tuple #[.int .i64 (bo), .int .i64 (ri), .int .i64 (0)]) := ⟨_, rfl⟩
  have k13 : Ev.Stay [46, 15, 16, 17, 47, 48, 49, 50, 51, 52, 53, 54, 55, 56, 57, 58, 59, 60, 61, 62] a a13 := by rw [qa13]; exact k12.put (by decide) _
  have e13_0 := Ev.oth qa13 (by decide) e12_0
  have e13_1 := Ev.oth qa13 (by decide) e12_1
  have e13_2 := Ev.oth qa13 (by decide) e12_2
  have e13_11 := Ev.oth qa13 (by decide) e12_11
  have e13_14 := Ev.oth qa13 (by decide) e12_14
  have e13_7 := Ev.oth qa13 (by decide) e12_7
  have e13_9 := Ev.oth qa13 (by decide) e12_9
  have e13_13 := Ev.oth qa13 (by decide) e12_13
  have e13_47 := Ev.oth qa13 (by decide) e12_47
  have e13_53 := Ev.oth qa13 (by decide) e12_53
  have e13_57 := Ev.oth qa13 (by decide) e12_57
  have e13_58 := Ev.oth qa13 (by decide) e12_58
  have e13_59 := Ev.sam qa13 (by rw [k12.1, hsz]; decide)
  rw [← qa13]
  clear qa13 e12_0 e12_1 e12_2 e12_11 e12_14 e12_7 e12_9 e12_13 e12_47 e12_53 e12_57 e12_58
  clear e13_47
  clear e13_53
  clear e13_57
  clear e13_58
  refine Ev.pv (N := 46) (v := .tuple #[.int .i64 (bo), .int .i64 (ri), .int .i64 (0)]) (W' := w_) ?_ rfl rfl ?_
  · unfold execOp
    generalize a13.eval = ev at *
    go_simp
  obtain ⟨a14, qa14⟩ : ∃ z_, z_ = a13.put (some 46) (.tuple #[.int .i64 (bo), .int .i64 (ri), .int .i64 (0)]) := ⟨_, rfl⟩
  have k14 : Ev.Stay [46, 15, 16, 17, 47, 48, 49, 50, 51, 52, 53, 54, 55, 56, 57, 58, 59, 60, 61, 62] a a14 := by rw [qa14]; exact k13.put (by decide) _
  have e14_0 := Ev.oth qa14 (by decide) e13_0
  have e14_1 := Ev.oth qa14 (by decide) e13_1
  have e14_2 := Ev.oth qa14 (by decide) e13_2
  have e14_11 := Ev.oth qa14 (by decide) e13_11
  have e14_14 := Ev.oth qa14 (by decide) e13_14
  have e14_7 := Ev.oth qa14 (by decide) e13_7
  have e14_9 := Ev.oth qa14 (by decide) e13_9
  have e14_13 := Ev.oth qa14 (by decide) e13_13
  have e14_59 := Ev.oth qa14 (by decide) e13_59
  have e14_46 := Ev.sam qa14 (by rw [k13.1, hsz]; decide)
  rw [← qa14]
  clear qa14 e13_0 e13_1 e13_2 e13_11 e13_14 e13_7 e13_9 e13_13 e13_59
  clear e14_59
  refine Ev.pv (N := 60) (v := .int .i64 (bo)) (W' := w_) ?_ rfl rfl ?_
  · unfold execOp
    generalize a14.eval = ev at *
    go_simp
  obtain ⟨a15, qa15⟩ : ∃ z_, z_ = a14.put (some 60) (.int .i64 (bo)) := ⟨_, rfl⟩
  have k15 : Ev.Stay [46, 15, 16, 17, 47, 48, 49, 50, 51, 52, 53, 54, 55, 56, 57, 58, 59, 60, 61, 62] a a15 := by rw [qa15]; exact k14.put (by decide) _
  have e15_0 := Ev.oth qa15 (by decide) e14_0
  have e15_1 := Ev.oth qa15 (by decide) e14_1
  have e15_2 := Ev.oth qa15 (by decide) e14_2
  have e15_11 := Ev.oth qa15 (by decide) e14_11
  have e15_14 := Ev.oth qa15 (by decide) e14_14
  have e15_7 := Ev.oth qa15 (by decide) e14_7
  have e15_9 := Ev.oth qa15 (by decide) e14_9
  have e15_13 := Ev.oth qa15 (by decide) e14_13
  have e15_46 := Ev.oth qa15 (by decide) e14_46
  have e15_60 := Ev.sam qa15 (by rw [k14.1, hsz]; decide)
  rw [← qa15]
  clear qa15 e14_0 e14_1 e14_2 e14_11 e14_14 e14_7 e14_9 e14_13 e14_46
  refine Ev.pv (N := 61) (v := .int .i64 (ri)) (W' := w_) ?_ rfl rfl ?_
  · unfold execOp
    generalize a15.eval = ev at *
    go_simp
  obtain ⟨a16, qa16⟩ : ∃ z_, z_ = a15.put (some 61) (.int .i64 (ri)) := ⟨_, rfl⟩
  have k16 : Ev.Stay [46, 15, 16, 17, 47, 48, 49, 50, 51, 52, 53, 54, 55, 56, 57, 58, 59, 60, 61, 62] a a16 := by rw [qa16]; exact k15.put (by decide) _
  have e16_0 := Ev.oth qa16 (by decide) e15_0
  have e16_1 := Ev.oth qa16 (by decide) e15_1
  have e16_2 := Ev.oth qa16 (by decide) e15_2
  have e16_11 := Ev.oth qa16 (by decide) e15_11
  have e16_14 := Ev.oth qa16 (by decide) e15_14
  have e16_7 := Ev.oth qa16 (by decide) e15_7
  have e16_9 := Ev.oth qa16 (by decide) e15_9
  have e16_13 := Ev.oth qa16 (by decide) e15_13
  have e16_46 := Ev.oth qa16 (by decide) e15_46
  have e16_60 := Ev.oth qa16 (by decide) e15_60
  have e16_61 := Ev.sam qa16 (by rw [k15.1, hsz]; decide)
  rw [← qa16]
  clear qa16 e15_0 e15_1 e15_2 e15_11 e15_14 e15_7 e15_9 e15_13 e15_46 e15_60
  refine Ev.pv (N := 62) (v := .int .i64 (0)) (W' := w_) ?_ rfl rfl ?_
  · unfold execOp
    generalize a16.eval = ev at *
    go_simp
  obtain ⟨a17, qa17⟩ : ∃ z_, z_ = a16.put (some 62) (.int .i64 (0)) := ⟨_, rfl⟩
  have k17 : Ev.Stay [46, 15, 16, 17, 47, 48, 49, 50, 51, 52, 53, 54, 55, 56, 57, 58, 59, 60, 61, 62] a a17 := by rw [qa17]; exact k16.put (by decide) _
  have e17_0 := Ev.oth qa17 (by decide) e16_0
  have e17_1 := Ev.oth qa17 (by decide) e16_1
  have e17_2 := Ev.oth qa17 (by decide) e16_2
  have e17_11 := Ev.oth qa17 (by decide) e16_11
  have e17_14 := Ev.oth qa17 (by decide) e16_14
  have e17_7 := Ev.oth qa17 (by decide) e16_7
  have e17_9 := Ev.oth qa17 (by decide) e16_9
  have e17_13 := Ev.oth qa17 (by decide) e16_13
  have e17_46 := Ev.oth qa17 (by decide) e16_46
  have e17_60 := Ev.oth qa17 (by decide) e16_60
  have e17_61 := Ev.oth qa17 (by decide) e16_61
  have e17_62 := Ev.sam qa17 (by rw [k16.1, hsz]; decide)
  rw [← qa17]
  clear qa17 e16_0 e16_1 e16_2 e16_11 e16_14 e16_7 e16_9 e16_13 e16_46 e16_60 e16_61
  refine Ev.pv (N := 15) (v := .int .i64 (bo)) (W' := w_) ?_ rfl rfl ?_
  · unfold execOp
    generalize a17.eval = ev at *
    go_simp
  obtain ⟨a18, qa18⟩ : ∃ z_, z_ = a17.put (some 15) (.int .i64 (bo)) := ⟨_, rfl⟩
  have k18 : Ev.Stay [46, 15, 16, 17, 47, 48, 49, 50, 51, 52, 53, 54, 55, 56, 57, 58, 59, 60, 61, 62] a a18 := by rw [qa18]; exact k17.put (by decide) _
  have e18_0 := Ev.oth qa18 (by decide) e17_0
  have e18_1 := Ev.oth qa18 (by decide) e17_1
  have e18_2 := Ev.oth qa18 (by decide) e17_2
  have e18_11 := Ev.oth qa18 (by decide) e17_11
  have e18_14 := Ev.oth qa18 (by decide) e17_14
  have e18_7 := Ev.oth qa18 (by decide) e17_7
  have e18_9 := Ev.oth qa18 (by decide) e17_9
  have e18_13 := Ev.oth qa18 (by decide) e17_13
  have e18_46 := Ev.oth qa18 (by decide) e17_46
  have e18_60 := Ev.oth qa18 (by decide) e17_60
  have e18_61 := Ev.oth qa18 (by decide) e17_61
  have e18_62 := Ev.oth qa18 (by decide) e17_62
  have e18_15 := Ev.sam qa18 (by rw [k17.1, hsz]; decide)
  rw [← qa18]
  clear qa18 e17_0 e17_1 e17_2 e17_11 e17_14 e17_7 e17_9 e17_13 e17_46 e17_60 e17_61 e17_62
  refine Ev.pv (N := 16) (v := .int .i64 (ri)) (W' := w_) ?_ rfl rfl ?_
  · unfold execOp
    generalize a18.eval = ev at *
    go_simp
  obtain ⟨a19, qa19⟩ : ∃ z_, z_ = a18.put (some 16) (.int .i64 (ri)) := ⟨_, rfl⟩
  have k19 : Ev.Stay [46, 15, 16, 17, 47, 48, 49, 50, 51, 52, 53, 54, 55, 56, 57, 58, 59, 60, 61, 62] a a19 := by rw [qa19]; exact k18.put (by decide) _
  have e19_0 := Ev.oth qa19 (by decide) e18_0
  have e19_1 := Ev.oth qa19 (by decide) e18_1
  have e19_2 := Ev.oth qa19 (by decide) e18_2
  have e19_11 := Ev.oth qa19 (by decide) e18_11
  have e19_14 := Ev.oth qa19 (by decide) e18_14
  have e19_7 := Ev.oth qa19 (by decide) e18_7
  have e19_9 := Ev.oth qa19 (by decide) e18_9
  have e19_13 := Ev.oth qa19 (by decide) e18_13
  have e19_46 := Ev.oth qa19 (by decide) e18_46
  have e19_60 := Ev.oth qa19 (by decide) e18_60
  have e19_61 := Ev.oth qa19 (by decide) e18_61
  have e19_62 := Ev.oth qa19 (by decide) e18_62
  have e19_15 := Ev.oth qa19 (by decide) e18_15
  have e19_16 := Ev.sam qa19 (by rw [k18.1, hsz]; decide)
  rw [← qa19]
  clear qa19 e18_0 e18_1 e18_2 e18_11 e18_14 e18_7 e18_9 e18_13 e18_46 e18_60 e18_61 e18_62 e18_15
  refine Ev.pv (N := 17) (v := .int .i64 (0)) (W' := w_) ?_ rfl rfl ?_
  · unfold execOp
    generalize a19.eval = ev at *
    go_simp
  obtain ⟨a20, qa20⟩ : ∃ z_, z_ = a19.put (some 17) (.int .i64 (0)) := ⟨_, rfl⟩
  have k20 : Ev.Stay [46, 15, 16, 17, 47, 48, 49, 50, 51, 52, 53, 54, 55, 56, 57, 58, 59, 60, 61, 62] a a20 := by rw [qa20]; exact k19.put (by decide) _
  have e20_0 := Ev.oth qa20 (by decide) e19_0
  have e20_1 := Ev.oth qa20 (by decide) e19_1
  have e20_2 := Ev.oth qa20 (by decide) e19_2
  have e20_11 := Ev.oth qa20 (by decide) e19_11
  have e20_14 := Ev.oth qa20 (by decide) e19_14
  have e20_7 := Ev.oth qa20 (by decide) e19_7
  have e20_9 := Ev.oth qa20 (by decide) e19_9
  have e20_13 := Ev.oth qa20 (by decide) e19_13
  have e20_46 := Ev.oth qa20 (by decide) e19_46
  have e20_60 := Ev.oth qa20 (by decide) e19_60
  have e20_61 := Ev.oth qa20 (by decide) e19_61
  have e20_62 := Ev.oth qa20 (by decide) e19_62
  have e20_15 := Ev.oth qa20 (by decide) e19_15
  have e20_16 := Ev.oth qa20 (by decide) e19_16
  have e20_17 := Ev.sam qa20 (by rw [k19.1, hsz]; decide)
  rw [← qa20]
  clear qa20 e19_0 e19_1 e19_2 e19_11 e19_14 e19_7 e19_9 e19_13 e19_46 e19_60 e19_61 e19_62 e19_15 e19_16
  exact hQ _ _ k20 e20_15 e20_16 hR
set_option maxHeartbeats 2000000 in
theorem Rg.y14 {id : Nat} {Q : Exit → Act → World → Prop} {a : Act} {W : World} {t : Nat}
    (hsz : a.tmps.size = 85)  (h7 : a.eval (.tmp 7) = .int .i64 (t : Int))
    (hQ : ∀ a', Ev.Stay [63, 64] a a' → a'.eval (.tmp 63) = .int .i64 (t : Int) → a'.eval (.tmp 64) = .int .i64 (0) → Q .normal a' (W)) : (Code.region id (Ru.ops 17 14) false).wp Try.prog Q a W := by
  refine wp_region_list ?_
  show wpList _ _ _ (_ :: _ :: []) _ _
  have k0 : Ev.Stay [63, 64] a a := Ev.Stay.refl [63, 64] a
  refine Ev.pv (N := 63) (v := .int .i64 (t : Int)) (W' := W) ?_ rfl rfl ?_
  · unfold execOp
    generalize a.eval = ev at *
    go_simp
  obtain ⟨a1, qa1⟩ : ∃ z_, z_ = a.put (some 63) (.int .i64 (t : Int)) := ⟨_, rfl⟩
  have k1 : Ev.Stay [63, 64] a a1 := by rw [qa1]; exact k0.put (by decide) _
  have e1_7 := Ev.oth qa1 (by decide) h7
  have e1_63 := Ev.sam qa1 (by rw [k0.1, hsz]; decide)
  rw [← qa1]
  clear qa1 
  refine Ev.pv (N := 64) (v := .int .i64 (0)) (W' := W) ?_ rfl rfl ?_
  · have ec0 : a1.eval (.const (.int .i64 (0))) = .int .i64 (0) := rfl
    unfold execOp
    generalize a1.eval = ev at *
    go_simp
  obtain ⟨a2, qa2⟩ : ∃ z_, z_ = a1.put (some 64) (.int .i64 (0)) := ⟨_, rfl⟩
  have k2 : Ev.Stay [63, 64] a a2 := by rw [qa2]; exact k1.put (by decide) _
  have e2_7 := Ev.oth qa2 (by decide) e1_7
  have e2_63 := Ev.oth qa2 (by decide) e1_63
  have e2_64 := Ev.sam qa2 (by rw [k1.1, hsz]; decide)
  rw [← qa2]
  clear qa2 e1_7 e1_63
  exact hQ _ k2 e2_63 e2_64
set_option maxHeartbeats 2000000 in
theorem Rg.y15 {id : Nat} {Q : Exit → Act → World → Prop} {a : Act} {W : World} {t k : Nat}
    (hsz : a.tmps.size = 85)  (h63 : a.eval (.tmp 63) = .int .i64 (t : Int)) (h64 : a.eval (.tmp 64) = .int .i64 (k : Int))
    (hQ : ∀ a', Ev.Stay [65] a a' → a'.eval (.tmp 65) = .bool (decide (k < t)) → Q .normal a' (W)) : (Code.region id (Ru.ops 17 15) false).wp Try.prog Q a W := by
  refine wp_region_list ?_
  show wpList _ _ _ (_ :: []) _ _
  have k0 : Ev.Stay [65] a a := Ev.Stay.refl [65] a
  refine Ev.pv (N := 65) (v := .bool (decide (k < t))) (W' := W) ?_ rfl rfl ?_
  · unfold execOp
    generalize a.eval = ev at *
    (go_simp; try (rw [Bool.eq_iff_iff]; simp))
  obtain ⟨a1, qa1⟩ : ∃ z_, z_ = a.put (some 65) (.bool (decide (k < t))) := ⟨_, rfl⟩
  have k1 : Ev.Stay [65] a a1 := by rw [qa1]; exact k0.put (by decide) _
  have e1_63 := Ev.oth qa1 (by decide) h63
  have e1_64 := Ev.oth qa1 (by decide) h64
  have e1_65 := Ev.sam qa1 (by rw [k0.1, hsz]; decide)
  rw [← qa1]
  clear qa1 
  exact hQ _ k1 e1_65
set_option maxHeartbeats 2000000 in
theorem Rg.y16 {id : Nat} {Q : Exit → Act → World → Prop} {a : Act} {W : World} {k : Nat}
    (hsz : a.tmps.size = 85)  (h64 : a.eval (.tmp 64) = .int .i64 (k : Int))
    (hQ : ∀ a', Ev.Stay [66, 18] a a' → a'.eval (.tmp 18) = .int .i64 (k : Int) → Q .normal a' (W)) : (Code.region id (Ru.ops 17 16) false).wp Try.prog Q a W := by
  refine wp_region_list ?_
  show wpList _ _ _ (_ :: _ :: []) _ _
  have k0 : Ev.Stay [66, 18] a a := Ev.Stay.refl [66, 18] a
  refine Ev.pv (N := 66) (v := .int .i64 (k : Int)) (W' := W) ?_ rfl rfl ?_
  · unfold execOp
    generalize a.eval = ev at *
    go_simp
  obtain ⟨a1, qa1⟩ : ∃ z_, z_ = a.put (some 66) (.int .i64 (k : Int)) := ⟨_, rfl⟩
  have k1 : Ev.Stay [66, 18] a a1 := by rw [qa1]; exact k0.put (by decide) _
  have e1_64 := Ev.oth qa1 (by decide) h64
  have e1_66 := Ev.sam qa1 (by rw [k0.1, hsz]; decide)
  rw [← qa1]
  clear qa1 
  refine Ev.pv (N := 18) (v := .int .i64 (k : Int)) (W' := W) ?_ rfl rfl ?_
  · unfold execOp
    generalize a1.eval = ev at *
    go_simp
  obtain ⟨a2, qa2⟩ : ∃ z_, z_ = a1.put (some 18) (.int .i64 (k : Int)) := ⟨_, rfl⟩
  have k2 : Ev.Stay [66, 18] a a2 := by rw [qa2]; exact k1.put (by decide) _
  have e2_64 := Ev.oth qa2 (by decide) e1_64
  have e2_66 := Ev.oth qa2 (by decide) e1_66
  have e2_18 := Ev.sam qa2 (by rw [k1.1, hsz]; decide)
  rw [← qa2]
  clear qa2 e1_64 e1_66
  exact hQ _ k2 e2_18
set_option maxHeartbeats 2000000 in
theorem Rg.y18 {id : Nat} {Q : Exit → Act → World → Prop} {a : Act} {W : World} {k : Nat}
    (hsz : a.tmps.size = 85)  (h64 : a.eval (.tmp 64) = .int .i64 (k : Int)) (hk : k < 100)
    (hQ : ∀ a', Ev.Stay [77, 64] a a' → a'.eval (.tmp 64) = .int .i64 ((k + 1 : Nat) : Int) → Q .normal a' (W)) : (Code.region id (Ru.ops 17 18) false).wp Try.prog Q a W := by
  refine wp_region_list ?_
  show wpList _ _ _ (_ :: _ :: []) _ _
  have k0 : Ev.Stay [77, 64] a a := Ev.Stay.refl [77, 64] a
  refine Ev.pv (N := 77) (v := .int .i64 ((k + 1 : Nat) : Int)) (W' := W) ?_ rfl rfl ?_
  · have ec0 : a.eval (.const (.int .i64 (1))) = .int .i64 (1) := rfl
    unfold execOp
    generalize a.eval = ev at *
    (go_simp; exact wr (by omega) (by omega))
  obtain ⟨a1, qa1⟩ : ∃ z_, z_ = a.put (some 77) (.int .i64 ((k + 1 : Nat) : Int)) := ⟨_, rfl⟩
  have k1 : Ev.Stay [77, 64] a a1 := by rw [qa1]; exact k0.put (by decide) _
  have e1_64 := Ev.oth qa1 (by decide) h64
  have e1_77 := Ev.sam qa1 (by rw [k0.1, hsz]; decide)
  rw [← qa1]
  clear qa1 
  refine Ev.pv (N := 64) (v := .int .i64 ((k + 1 : Nat) : Int)) (W' := W) ?_ rfl rfl ?_
  · unfold execOp
    generalize a1.eval = ev at *
    go_simp
  obtain ⟨a2, qa2⟩ : ∃ z_, z_ = a1.put (some 64) (.int .i64 ((k + 1 : Nat) : Int)) := ⟨_, rfl⟩
  have k2 : Ev.Stay [77, 64] a a2 := by rw [qa2]; exact k1.put (by decide) _
  have e2_77 := Ev.oth qa2 (by decide) e1_77
  have e2_64 := Ev.sam qa2 (by rw [k1.1, hsz]; decide)
  rw [← qa2]
  clear qa2 e1_64 e1_77
  exact hQ _ k2 e2_64
set_option maxHeartbeats 2000000 in
theorem Rg.y19 {id : Nat} {Q : Exit → Act → World → Prop} {a : Act} {W : World} {x : Int}
    (hsz : a.tmps.size = 85)  (h16 : a.eval (.tmp 16) = .int .i64 (x))
    (hQ : ∀ a', Ev.Stay [78, 13] a a' → a'.eval (.tmp 13) = .int .i64 (x) → Q .normal a' (W)) : (Code.region id (Ru.ops 17 19) false).wp Try.prog Q a W := by
  refine wp_region_list ?_
  show wpList _ _ _ (_ :: _ :: []) _ _
  have k0 : Ev.Stay [78, 13] a a := Ev.Stay.refl [78, 13] a
  refine Ev.pv (N := 78) (v := .int .i64 (x)) (W' := W) ?_ rfl rfl ?_
  · unfold execOp
    generalize a.eval = ev at *
    go_simp
  obtain ⟨a1, qa1⟩ : ∃ z_, z_ = a.put (some 78) (.int .i64 (x)) := ⟨_, rfl⟩
  have k1 : Ev.Stay [78, 13] a a1 := by rw [qa1]; exact k0.put (by decide) _
  have e1_16 := Ev.oth qa1 (by decide) h16
  have e1_78 := Ev.sam qa1 (by rw [k0.1, hsz]; decide)
  rw [← qa1]
  clear qa1 
  refine Ev.pv (N := 13) (v := .int .i64 (x)) (W' := W) ?_ rfl rfl ?_
  · unfold execOp
    generalize a1.eval = ev at *
    go_simp
  obtain ⟨a2, qa2⟩ : ∃ z_, z_ = a1.put (some 13) (.int .i64 (x)) := ⟨_, rfl⟩
  have k2 : Ev.Stay [78, 13] a a2 := by rw [qa2]; exact k1.put (by decide) _
  have e2_16 := Ev.oth qa2 (by decide) e1_16
  have e2_78 := Ev.oth qa2 (by decide) e1_78
  have e2_13 := Ev.sam qa2 (by rw [k1.1, hsz]; decide)
  rw [← qa2]
  clear qa2 e1_16 e1_78
  exact hQ _ k2 e2_13
set_option maxHeartbeats 2000000 in
theorem Rg.y12 {id : Nat} {Q : Exit → Act → World → Prop} {a : Act} {W : World} {j t : Nat}
    (hsz : a.tmps.size = 85)  (h14 : a.eval (.tmp 14) = .int .i64 (j : Int)) (h7 : a.eval (.tmp 7) = .int .i64 (t : Int)) (hj : j ≤ 1000) (ht : t ≤ 3)
    (hQ : ∀ a', Ev.Stay [43, 44, 45, 14] a a' → a'.eval (.tmp 14) = .int .i64 ((j + t : Nat) : Int) → Q .normal a' (W)) : (Code.region id (Ru.ops 17 12) false).wp Try.prog Q a W := by
  refine wp_region_list ?_
  show wpList _ _ _ (_ :: _ :: _ :: _ :: []) _ _
  have k0 : Ev.Stay [43, 44, 45, 14] a a := Ev.Stay.refl [43, 44, 45, 14] a
  refine Ev.pv (N := 43) (v := .int .i64 (j : Int)) (W' := W) ?_ rfl rfl ?_
  · unfold execOp
    generalize a.eval = ev at *
    go_simp
  obtain ⟨a1, qa1⟩ : ∃ z_, z_ = a.put (some 43) (.int .i64 (j : Int)) := ⟨_, rfl⟩
  have k1 : Ev.Stay [43, 44, 45, 14] a a1 := by rw [qa1]; exact k0.put (by decide) _
  have e1_14 := Ev.oth qa1 (by decide) h14
  have e1_7 := Ev.oth qa1 (by decide) h7
  have e1_43 := Ev.sam qa1 (by rw [k0.1, hsz]; decide)
  rw [← qa1]
  clear qa1 
  refine Ev.pv (N := 44) (v := .int .i64 (t : Int)) (W' := W) ?_ rfl rfl ?_
  · unfold execOp
    generalize a1.eval = ev at *
    go_simp
  obtain ⟨a2, qa2⟩ : ∃ z_, z_ = a1.put (some 44) (.int .i64 (t : Int)) := ⟨_, rfl⟩
  have k2 : Ev.Stay [43, 44, 45, 14] a a2 := by rw [qa2]; exact k1.put (by decide) _
  have e2_14 := Ev.oth qa2 (by decide) e1_14
  have e2_7 := Ev.oth qa2 (by decide) e1_7
  have e2_43 := Ev.oth qa2 (by decide) e1_43
  have e2_44 := Ev.sam qa2 (by rw [k1.1, hsz]; decide)
  rw [← qa2]
  clear qa2 e1_14 e1_7 e1_43
  refine Ev.pv (N := 45) (v := .int .i64 ((j + t : Nat) : Int)) (W' := W) ?_ rfl rfl ?_
  · unfold execOp
    generalize a2.eval = ev at *
    (go_simp; exact wr (by omega) (by omega))
  obtain ⟨a3, qa3⟩ : ∃ z_, z_ = a2.put (some 45) (.int .i64 ((j + t : Nat) : Int)) := ⟨_, rfl⟩
  have k3 : Ev.Stay [43, 44, 45, 14] a a3 := by rw [qa3]; exact k2.put (by decide) _
  have e3_14 := Ev.oth qa3 (by decide) e2_14
  have e3_7 := Ev.oth qa3 (by decide) e2_7
  have e3_43 := Ev.oth qa3 (by decide) e2_43
  have e3_44 := Ev.oth qa3 (by decide) e2_44
  have e3_45 := Ev.sam qa3 (by rw [k2.1, hsz]; decide)
  rw [← qa3]
  clear qa3 e2_14 e2_7 e2_43 e2_44
  refine Ev.pv (N := 14) (v := .int .i64 ((j + t : Nat) : Int)) (W' := W) ?_ rfl rfl ?_
  · unfold execOp
    generalize a3.eval = ev at *
    go_simp
  obtain ⟨a4, qa4⟩ : ∃ z_, z_ = a3.put (some 14) (.int .i64 ((j + t : Nat) : Int)) := ⟨_, rfl⟩
  have k4 : Ev.Stay [43, 44, 45, 14] a a4 := by rw [qa4]; exact k3.put (by decide) _
  have e4_7 := Ev.oth qa4 (by decide) e3_7
  have e4_43 := Ev.oth qa4 (by decide) e3_43
  have e4_44 := Ev.oth qa4 (by decide) e3_44
  have e4_45 := Ev.oth qa4 (by decide) e3_45
  have e4_14 := Ev.sam qa4 (by rw [k3.1, hsz]; decide)
  rw [← qa4]
  clear qa4 e3_14 e3_7 e3_43 e3_44 e3_45
  exact hQ _ k4 e4_14
set_option maxHeartbeats 2000000 in
theorem Rg.y7 {id : Nat} {Q : Exit → Act → World → Prop} {a : Act} {W : World} {j t : Nat}
    (hsz : a.tmps.size = 85)  (h11 : a.eval (.tmp 11) = .int .i64 (j : Int)) (h7 : a.eval (.tmp 7) = .int .i64 (t : Int)) (hj : j ≤ 1000) (ht : t ≤ 3)
    (hQ : ∀ a', Ev.Stay [35, 36, 37, 11] a a' → a'.eval (.tmp 11) = .int .i64 ((j + t : Nat) : Int) → Q .normal a' (W)) : (Code.region id (Ru.ops 17 7) false).wp Try.prog Q a W := by
  refine wp_region_list ?_
  show wpList _ _ _ (_ :: _ :: _ :: _ :: []) _ _
  have k0 : Ev.Stay [35, 36, 37, 11] a a := Ev.Stay.refl [35, 36, 37, 11] a
  refine Ev.pv (N := 35) (v := .int .i64 (j : Int)) (W' := W) ?_ rfl rfl ?_
  · unfold execOp
    generalize a.eval = ev at *
    go_simp
  obtain ⟨a1, qa1⟩ : ∃ z_, z_ = a.put (some 35) (.int .i64 (j : Int)) := ⟨_, rfl⟩
  have k1 : Ev.Stay [35, 36, 37, 11] a a1 := by rw [qa1]; exact k0.put (by decide) _
  have e1_11 := Ev.oth qa1 (by decide) h11
  have e1_7 := Ev.oth qa1 (by decide) h7
  have e1_35 := Ev.sam qa1 (by rw [k0.1, hsz]; decide)
  rw [← qa1]
  clear qa1 
  refine Ev.pv (N := 36) (v := .int .i64 (t : Int)) (W' := W) ?_ rfl rfl ?_
  · unfold execOp
    generalize a1.eval = ev at *
    go_simp
  obtain ⟨a2, qa2⟩ : ∃ z_, z_ = a1.put (some 36) (.int .i64 (t : Int)) := ⟨_, rfl⟩
  have k2 : Ev.Stay [35, 36, 37, 11] a a2 := by rw [qa2]; exact k1.put (by decide) _
  have e2_11 := Ev.oth qa2 (by decide) e1_11
  have e2_7 := Ev.oth qa2 (by decide) e1_7
  have e2_35 := Ev.oth qa2 (by decide) e1_35
  have e2_36 := Ev.sam qa2 (by rw [k1.1, hsz]; decide)
  rw [← qa2]
  clear qa2 e1_11 e1_7 e1_35
  refine Ev.pv (N := 37) (v := .int .i64 ((j + t : Nat) : Int)) (W' := W) ?_ rfl rfl ?_
  · unfold execOp
    generalize a2.eval = ev at *
    (go_simp; exact wr (by omega) (by omega))
  obtain ⟨a3, qa3⟩ : ∃ z_, z_ = a2.put (some 37) (.int .i64 ((j + t : Nat) : Int)) := ⟨_, rfl⟩
  have k3 : Ev.Stay [35, 36, 37, 11] a a3 := by rw [qa3]; exact k2.put (by decide) _
  have e3_11 := Ev.oth qa3 (by decide) e2_11
  have e3_7 := Ev.oth qa3 (by decide) e2_7
  have e3_35 := Ev.oth qa3 (by decide) e2_35
  have e3_36 := Ev.oth qa3 (by decide) e2_36
  have e3_37 := Ev.sam qa3 (by rw [k2.1, hsz]; decide)
  rw [← qa3]
  clear qa3 e2_11 e2_7 e2_35 e2_36
  refine Ev.pv (N := 11) (v := .int .i64 ((j + t : Nat) : Int)) (W' := W) ?_ rfl rfl ?_
  · unfold execOp
    generalize a3.eval = ev at *
    go_simp
  obtain ⟨a4, qa4⟩ : ∃ z_, z_ = a3.put (some 11) (.int .i64 ((j + t : Nat) : Int)) := ⟨_, rfl⟩
  have k4 : Ev.Stay [35, 36, 37, 11] a a4 := by rw [qa4]; exact k3.put (by decide) _
  have e4_7 := Ev.oth qa4 (by decide) e3_7
  have e4_35 := Ev.oth qa4 (by decide) e3_35
  have e4_36 := Ev.oth qa4 (by decide) e3_36
  have e4_37 := Ev.oth qa4 (by decide) e3_37
  have e4_11 := Ev.sam qa4 (by rw [k3.1, hsz]; decide)
  rw [← qa4]
  clear qa4 e3_11 e3_7 e3_35 e3_36 e3_37
  exact hQ _ k4 e4_11
set_option maxHeartbeats 2000000 in
theorem Rg.y21 {id : Nat} {Q : Exit → Act → World → Prop} {a : Act} {W : World} {v : Value}
    (hsz : a.tmps.size = 85)  (h12 : a.eval (.tmp 12) = v)
    (hQ : ∀ a', Ev.Stay [83, 9] a a' → a'.eval (.tmp 9) = v → Q .normal a' (W)) : (Code.region id (Ru.ops 17 21) false).wp Try.prog Q a W := by
  refine wp_region_list ?_
  show wpList _ _ _ (_ :: _ :: []) _ _
  have k0 : Ev.Stay [83, 9] a a := Ev.Stay.refl [83, 9] a
  refine Ev.pv (N := 83) (v := v) (W' := W) ?_ rfl rfl ?_
  · unfold execOp
    generalize a.eval = ev at *
    (simp [go_sem, *])
  obtain ⟨a1, qa1⟩ : ∃ z_, z_ = a.put (some 83) (v) := ⟨_, rfl⟩
  have k1 : Ev.Stay [83, 9] a a1 := by rw [qa1]; exact k0.put (by decide) _
  have e1_12 := Ev.oth qa1 (by decide) h12
  have e1_83 := Ev.sam qa1 (by rw [k0.1, hsz]; decide)
  rw [← qa1]
  clear qa1 
  refine Ev.pv (N := 9) (v := v) (W' := W) ?_ rfl rfl ?_
  · unfold execOp
    generalize a1.eval = ev at *
    (simp [go_sem, *])
  obtain ⟨a2, qa2⟩ : ∃ z_, z_ = a1.put (some 9) (v) := ⟨_, rfl⟩
  have k2 : Ev.Stay [83, 9] a a2 := by rw [qa2]; exact k1.put (by decide) _
  have e2_12 := Ev.oth qa2 (by decide) e1_12
  have e2_83 := Ev.oth qa2 (by decide) e1_83
  have e2_9 := Ev.sam qa2 (by rw [k1.1, hsz]; decide)
  rw [← qa2]
  clear qa2 e1_12 e1_83
  exact hQ _ k2 e2_9
set_option maxHeartbeats 2000000 in
theorem Rg.y22 {id : Nat} {Q : Exit → Act → World → Prop} {a : Act} {W : World} {v : Value}
    (hsz : a.tmps.size = 85)  (h10 : a.eval (.tmp 10) = v)
    (hQ : ∀ a', Ev.Stay [84, 6] a a' → a'.eval (.tmp 6) = v → Q .normal a' (W)) : (Code.region id (Ru.ops 17 22) false).wp Try.prog Q a W := by
  refine wp_region_list ?_
  show wpList _ _ _ (_ :: _ :: []) _ _
  have k0 : Ev.Stay [84, 6] a a := Ev.Stay.refl [84, 6] a
  refine Ev.pv (N := 84) (v := v) (W' := W) ?_ rfl rfl ?_
  · unfold execOp
    generalize a.eval = ev at *
    (simp [go_sem, *])
  obtain ⟨a1, qa1⟩ : ∃ z_, z_ = a.put (some 84) (v) := ⟨_, rfl⟩
  have k1 : Ev.Stay [84, 6] a a1 := by rw [qa1]; exact k0.put (by decide) _
  have e1_10 := Ev.oth qa1 (by decide) h10
  have e1_84 := Ev.sam qa1 (by rw [k0.1, hsz]; decide)
  rw [← qa1]
  clear qa1 
  refine Ev.pv (N := 6) (v := v) (W' := W) ?_ rfl rfl ?_
  · unfold execOp
    generalize a1.eval = ev at *
    (simp [go_sem, *])
  obtain ⟨a2, qa2⟩ : ∃ z_, z_ = a1.put (some 6) (v) := ⟨_, rfl⟩
  have k2 : Ev.Stay [84, 6] a a2 := by rw [qa2]; exact k1.put (by decide) _
  have e2_10 := Ev.oth qa2 (by decide) e1_10
  have e2_84 := Ev.oth qa2 (by decide) e1_84
  have e2_6 := Ev.sam qa2 (by rw [k1.1, hsz]; decide)
  rw [← qa2]
  clear qa2 e1_10 e1_84
  exact hQ _ k2 e2_6
set_option maxHeartbeats 2000000 in
theorem Rg.y17 {id : Nat} {Q : Exit → Act → World → Prop} {a : Act} {W : World} {g wd j k : Nat} {bo bt : Int} {D : Nat → Int}
    (hsz : a.tmps.size = 85)  (h12 : a.eval (.tmp 12) = .slice (some ⟨g, 0, none⟩) wd wd) (h14 : a.eval (.tmp 14) = .int .i64 (j : Int)) (h18 : a.eval (.tmp 18) = .int .i64 (k : Int)) (h15 : a.eval (.tmp 15) = .int .i64 (bo)) (hg : W.heap[g]? = some (.cells (tabA wd D) 5 (0, 0))) (hjk : j + k < wd) (hw1 : wd ≤ 1000) (hk : k < 3) (hb : bits .and .i64 (bo / 2 ^ k) 1 = bt) (hbt : IntKind.u8.wrap bt = bt)
    (hQ : ∀ a', Ev.Stay [67, 68, 69, 70, 71, 72, 73, 74, 75, 76] a a' → Q .normal a' (W.setCell ⟨g, j + k, none⟩ (.int .u8 bt))) : (Code.region id (Ru.ops 17 17) false).wp Try.prog Q a W := by
  refine wp_region_list ?_
  show wpList _ _ _ (_ :: _ :: _ :: _ :: _ :: _ :: _ :: _ :: _ :: _ :: _ :: []) _ _
  have k0 : Ev.Stay [67, 68, 69, 70, 71, 72, 73, 74, 75, 76] a a := Ev.Stay.refl [67, 68, 69, 70, 71, 72, 73, 74, 75, 76] a
  refine Ev.pv (N := 67) (v := .slice (some ⟨g, 0, none⟩) wd wd) (W' := W) ?_ rfl rfl ?_
  · unfold execOp
    generalize a.eval = ev at *
    go_simp
  obtain ⟨a1, qa1⟩ : ∃ z_, z_ = a.put (some 67) (.slice (some ⟨g, 0, none⟩) wd wd) := ⟨_, rfl⟩
  have k1 : Ev.Stay [67, 68, 69, 70, 71, 72, 73, 74, 75, 76] a a1 := by rw [qa1]; exact k0.put (by decide) _
  have e1_12 := Ev.oth qa1 (by decide) h12
  have e1_14 := Ev.oth qa1 (by decide) h14
  have e1_18 := Ev.oth qa1 (by decide) h18
  have e1_15 := Ev.oth qa1 (by decide) h15
  have e1_67 := Ev.sam qa1 (by rw [k0.1, hsz]; decide)
  rw [← qa1]
  clear qa1 
  refine Ev.pv (N := 68) (v := .int .i64 (j : Int)) (W' := W) ?_ rfl rfl ?_
  · unfold execOp
    generalize a1.eval = ev at *
    go_simp
  obtain ⟨a2, qa2⟩ : ∃ z_, z_ = a1.put (some 68) (.int .i64 (j : Int)) := ⟨_, rfl⟩
  have k2 : Ev.Stay [67, 68, 69, 70, 71, 72, 73, 74, 75, 76] a a2 := by rw [qa2]; exact k1.put (by decide) _
  have e2_12 := Ev.oth qa2 (by decide) e1_12
  have e2_14 := Ev.oth qa2 (by decide) e1_14
  have e2_18 := Ev.oth qa2 (by decide) e1_18
  have e2_15 := Ev.oth qa2 (by decide) e1_15
  have e2_67 := Ev.oth qa2 (by decide) e1_67
  have e2_68 := Ev.sam qa2 (by rw [k1.1, hsz]; decide)
  rw [← qa2]
  clear qa2 e1_12 e1_14 e1_18 e1_15 e1_67
  refine Ev.pv (N := 69) (v := .int .i64 (k : Int)) (W' := W) ?_ rfl rfl ?_
  · unfold execOp
    generalize a2.eval = ev at *
    go_simp
  obtain ⟨a3, qa3⟩ : ∃ z_, z_ = a2.put (some 69) (.int .i64 (k : Int)) := ⟨_, rfl⟩
  have k3 : Ev.Stay [67, 68, 69, 70, 71, 72, 73, 74, 75, 76] a a3 := by rw [qa3]; exact k2.put (by decide) _
  have e3_12 := Ev.oth qa3 (by decide) e2_12
  have e3_14 := Ev.oth qa3 (by decide) e2_14
  have e3_18 := Ev.oth qa3 (by decide) e2_18
  have e3_15 := Ev.oth qa3 (by decide) e2_15
  have e3_67 := Ev.oth qa3 (by decide) e2_67
  have e3_68 := Ev.oth qa3 (by decide) e2_68
  have e3_69 := Ev.sam qa3 (by rw [k2.1, hsz]; decide)
  rw [← qa3]
  clear qa3 e2_12 e2_14 e2_18 e2_15 e2_67 e2_68
  refine Ev.pv (N := 70) (v := .int .i64 ((j + k : Nat) : Int)) (W' := W) ?_ rfl rfl ?_
  · unfold execOp
    generalize a3.eval = ev at *
    (go_simp; exact wr (by omega) (by omega))
  obtain ⟨a4, qa4⟩ : ∃ z_, z_ = a3.put (some 70) (.int .i64 ((j + k : Nat) : Int)) := ⟨_, rfl⟩
  have k4 : Ev.Stay [67, 68, 69, 70, 71, 72, 73, 74, 75, 76] a a4 := by rw [qa4]; exact k3.put (by decide) _
  have e4_12 := Ev.oth qa4 (by decide) e3_12
  have e4_14 := Ev.oth qa4 (by decide) e3_14
  have e4_18 := Ev.oth qa4 (by decide) e3_18
  have e4_15 := Ev.oth qa4 (by decide) e3_15
  have e4_67 := Ev.oth qa4 (by decide) e3_67
  have e4_68 := Ev.oth qa4 (by decide) e3_68
  have e4_69 := Ev.oth qa4 (by decide) e3_69
  have e4_70 := Ev.sam qa4 (by rw [k3.1, hsz]; decide)
  rw [← qa4]
  clear qa4 e3_12 e3_14 e3_18 e3_15 e3_67 e3_68 e3_69
  clear e4_68
  clear e4_69
  refine Ev.pv (N := 71) (v := .int .i64 (bo)) (W' := W) ?_ rfl rfl ?_
  · unfold execOp
    generalize a4.eval = ev at *
    go_simp
  obtain ⟨a5, qa5⟩ : ∃ z_, z_ = a4.put (some 71) (.int .i64 (bo)) := ⟨_, rfl⟩
  have k5 : Ev.Stay [67, 68, 69, 70, 71, 72, 73, 74, 75, 76] a a5 := by rw [qa5]; exact k4.put (by decide) _
  have e5_12 := Ev.oth qa5 (by decide) e4_12
  have e5_14 := Ev.oth qa5 (by decide) e4_14
  have e5_18 := Ev.oth qa5 (by decide) e4_18
  have e5_15 := Ev.oth qa5 (by decide) e4_15
  have e5_67 := Ev.oth qa5 (by decide) e4_67
  have e5_70 := Ev.oth qa5 (by decide) e4_70
  have e5_71 := Ev.sam qa5 (by rw [k4.1, hsz]; decide)
  rw [← qa5]
  clear qa5 e4_12 e4_14 e4_18 e4_15 e4_67 e4_70
  refine Ev.pv (N := 72) (v := .int .i64 (k : Int)) (W' := W) ?_ rfl rfl ?_
  · unfold execOp
    generalize a5.eval = ev at *
    go_simp
  obtain ⟨a6, qa6⟩ : ∃ z_, z_ = a5.put (some 72) (.int .i64 (k : Int)) := ⟨_, rfl⟩
  have k6 : Ev.Stay [67, 68, 69, 70, 71, 72, 73, 74, 75, 76] a a6 := by rw [qa6]; exact k5.put (by decide) _
  have e6_12 := Ev.oth qa6 (by decide) e5_12
  have e6_14 := Ev.oth qa6 (by decide) e5_14
  have e6_18 := Ev.oth qa6 (by decide) e5_18
  have e6_15 := Ev.oth qa6 (by decide) e5_15
  have e6_67 := Ev.oth qa6 (by decide) e5_67
  have e6_70 := Ev.oth qa6 (by decide) e5_70
  have e6_71 := Ev.oth qa6 (by decide) e5_71
  have e6_72 := Ev.sam qa6 (by rw [k5.1, hsz]; decide)
  rw [← qa6]
  clear qa6 e5_12 e5_14 e5_18 e5_15 e5_67 e5_70 e5_71
  refine Ev.pv (N := 73) (v := .int .i64 (bo / 2 ^ k)) (W' := W) ?_ rfl rfl ?_
  · have l0_ : (0 : Int) ≤ (k : Int) := by omega
    have mn_ : min k 64 = k := by omega
    unfold execOp
    generalize a6.eval = ev at *
    go_simp
  obtain ⟨a7, qa7⟩ : ∃ z_, z_ = a6.put (some 73) (.int .i64 (bo / 2 ^ k)) := ⟨_, rfl⟩
  have k7 : Ev.Stay [67, 68, 69, 70, 71, 72, 73, 74, 75, 76] a a7 := by rw [qa7]; exact k6.put (by decide) _
  have e7_12 := Ev.oth qa7 (by decide) e6_12
  have e7_14 := Ev.oth qa7 (by decide) e6_14
  have e7_18 := Ev.oth qa7 (by decide) e6_18
  have e7_15 := Ev.oth qa7 (by decide) e6_15
  have e7_67 := Ev.oth qa7 (by decide) e6_67
  have e7_70 := Ev.oth qa7 (by decide) e6_70
  have e7_71 := Ev.oth qa7 (by decide) e6_71
  have e7_72 := Ev.oth qa7 (by decide) e6_72
  have e7_73 := Ev.sam qa7 (by rw [k6.1, hsz]; decide)
  rw [← qa7]
  clear qa7 e6_12 e6_14 e6_18 e6_15 e6_67 e6_70 e6_71 e6_72
  clear e7_71
  clear e7_72
  refine Ev.pv (N := 74) (v := .int .i64 (bt)) (W' := W) ?_ rfl rfl ?_
  · have ec0 : a7.eval (.const (.int .i64 (1))) = .int .i64 (1) := rfl
    have hb_ := hb
    unfold execOp
    generalize a7.eval = ev at *
    go_simp
  obtain ⟨a8, qa8⟩ : ∃ z_, z_ = a7.put (some 74) (.int .i64 (bt)) := ⟨_, rfl⟩
  have k8 : Ev.Stay [67, 68, 69, 70, 71, 72, 73, 74, 75, 76] a a8 := by rw [qa8]; exact k7.put (by decide) _
  have e8_12 := Ev.oth qa8 (by decide) e7_12
  have e8_14 := Ev.oth qa8 (by decide) e7_14
  have e8_18 := Ev.oth qa8 (by decide) e7_18
  have e8_15 := Ev.oth qa8 (by decide) e7_15
  have e8_67 := Ev.oth qa8 (by decide) e7_67
  have e8_70 := Ev.oth qa8 (by decide) e7_70
  have e8_73 := Ev.oth qa8 (by decide) e7_73
  have e8_74 := Ev.sam qa8 (by rw [k7.1, hsz]; decide)
  rw [← qa8]
  clear qa8 e7_12 e7_14 e7_18 e7_15 e7_67 e7_70 e7_73
  clear e8_73
  refine Ev.pv (N := 75) (v := .int .u8 (bt)) (W' := W) ?_ rfl rfl ?_
  · have hb_ := hbt
    unfold execOp
    generalize a8.eval = ev at *
    go_simp
  obtain ⟨a9, qa9⟩ : ∃ z_, z_ = a8.put (some 75) (.int .u8 (bt)) := ⟨_, rfl⟩
  have k9 : Ev.Stay [67, 68, 69, 70, 71, 72, 73, 74, 75, 76] a a9 := by rw [qa9]; exact k8.put (by decide) _
  have e9_12 := Ev.oth qa9 (by decide) e8_12
  have e9_14 := Ev.oth qa9 (by decide) e8_14
  have e9_18 := Ev.oth qa9 (by decide) e8_18
  have e9_15 := Ev.oth qa9 (by decide) e8_15
  have e9_67 := Ev.oth qa9 (by decide) e8_67
  have e9_70 := Ev.oth qa9 (by decide) e8_70
  have e9_74 := Ev.oth qa9 (by decide) e8_74
  have e9_75 := Ev.sam qa9 (by rw [k8.1, hsz]; decide)
  rw [← qa9]
  clear qa9 e8_12 e8_14 e8_18 e8_15 e8_67 e8_70 e8_74
  clear e9_74
  refine Ev.pv (N := 76) (v := .pointer (some ⟨g, j + k, none⟩)) (W' := W) ?_ rfl rfl ?_
  · have lk_ : (j : Int) + (k : Int) < (wd : Int) := by omega
    have lk0_ : (0 : Int) ≤ (j : Int) + (k : Int) := by omega
    unfold execOp
    generalize a9.eval = ev at *
    go_simp
  obtain ⟨a10, qa10⟩ : ∃ z_, z_ = a9.put (some 76) (.pointer (some ⟨g, j + k, none⟩)) := ⟨_, rfl⟩
  have k10 : Ev.Stay [67, 68, 69, 70, 71, 72, 73, 74, 75, 76] a a10 := by rw [qa10]; exact k9.put (by decide) _
  have e10_12 := Ev.oth qa10 (by decide) e9_12
  have e10_14 := Ev.oth qa10 (by decide) e9_14
  have e10_18 := Ev.oth qa10 (by decide) e9_18
  have e10_15 := Ev.oth qa10 (by decide) e9_15
  have e10_67 := Ev.oth qa10 (by decide) e9_67
  have e10_70 := Ev.oth qa10 (by decide) e9_70
  have e10_75 := Ev.oth qa10 (by decide) e9_75
  have e10_76 := Ev.sam qa10 (by rw [k9.1, hsz]; decide)
  rw [← qa10]
  clear qa10 e9_12 e9_14 e9_18 e9_15 e9_67 e9_70 e9_75
  clear e10_67
  clear e10_70
  have hcell := tab_cell hg hjk
  have hfz := blk_frozen hg (j + k)
  refine Ev.pk (W' := W.setCell ⟨g, j + k, none⟩ (.int .u8 bt)) ?_ rfl rfl ?_
  · unfold execOp
    generalize a10.eval = ev at *
    go_simp
  exact hQ _ k10 
set_option maxHeartbeats 2000000 in
theorem Rg.y20 {id : Nat} {Q : Exit → Act → World → Prop} {a : Act} {W : World} {g wd B n : Nat} {al : Value} {xs : List Value}
    (hsz : a.tmps.size = 85)  (h10 : a.eval (.tmp 10) = al) (h12 : a.eval (.tmp 12) = .slice (some ⟨g, 0, none⟩) wd wd) (hown : W.ownsRow B 44 1 al n xs) (hn : n ≤ 1000) (hB : B ≤ W.heap.size)
    (hQ : ∀ a' v' W', Ev.Stay [79, 80, 81, 82, 10] a a' → a'.eval (.tmp 10) = v' → W'.ownsRow B 44 1 v' (n + 1) (xs ++ [.slice (some ⟨g, 0, none⟩) wd wd]) → (W.alloc (.cells #[.slice (some ⟨g, 0, none⟩) wd wd] 44)).grownBy W' al.ownBlock → (v'.ownBlock = al.ownBlock ∨ v'.ownBlock = some (W.heap.size + 1)) → Q .normal a' W') : (Code.region id (Ru.ops 17 20) false).wp Try.prog Q a W := by
  refine wp_region_list ?_
  show wpList _ _ _ (_ :: _ :: _ :: _ :: _ :: []) _ _
  have k0 : Ev.Stay [79, 80, 81, 82, 10] a a := Ev.Stay.refl [79, 80, 81, 82, 10] a
  refine Ev.pv (N := 79) (v := al) (W' := W) ?_ rfl rfl ?_
  · unfold execOp
    generalize a.eval = ev at *
    (simp [go_sem, *])
  obtain ⟨a1, qa1⟩ : ∃ z_, z_ = a.put (some 79) (al) := ⟨_, rfl⟩
  have k1 : Ev.Stay [79, 80, 81, 82, 10] a a1 := by rw [qa1]; exact k0.put (by decide) _
  have e1_10 := Ev.oth qa1 (by decide) h10
  have e1_12 := Ev.oth qa1 (by decide) h12
  have e1_79 := Ev.sam qa1 (by rw [k0.1, hsz]; decide)
  rw [← qa1]
  clear qa1 
  refine Ev.pv (N := 80) (v := .slice (some ⟨g, 0, none⟩) wd wd) (W' := W) ?_ rfl rfl ?_
  · unfold execOp
    generalize a1.eval = ev at *
    go_simp
  obtain ⟨a2, qa2⟩ : ∃ z_, z_ = a1.put (some 80) (.slice (some ⟨g, 0, none⟩) wd wd) := ⟨_, rfl⟩
  have k2 : Ev.Stay [79, 80, 81, 82, 10] a a2 := by rw [qa2]; exact k1.put (by decide) _
  have e2_10 := Ev.oth qa2 (by decide) e1_10
  have e2_12 := Ev.oth qa2 (by decide) e1_12
  have e2_79 := Ev.oth qa2 (by decide) e1_79
  have e2_80 := Ev.sam qa2 (by rw [k1.1, hsz]; decide)
  rw [← qa2]
  clear qa2 e1_10 e1_12 e1_79
  refine Ev.pv (N := 81) (v := .slice (some ⟨W.heap.size, 0, none⟩) 1 1) (W' := W.alloc (.cells #[.slice (some ⟨g, 0, none⟩) wd wd] 44)) ?_ rfl rfl ?_
  · unfold execOp
    generalize a2.eval = ev at *
    go_simp
  obtain ⟨a3, qa3⟩ : ∃ z_, z_ = a2.put (some 81) (.slice (some ⟨W.heap.size, 0, none⟩) 1 1) := ⟨_, rfl⟩
  have k3 : Ev.Stay [79, 80, 81, 82, 10] a a3 := by rw [qa3]; exact k2.put (by decide) _
  have e3_10 := Ev.oth qa3 (by decide) e2_10
  have e3_12 := Ev.oth qa3 (by decide) e2_12
  have e3_79 := Ev.oth qa3 (by decide) e2_79
  have e3_80 := Ev.oth qa3 (by decide) e2_80
  have e3_81 := Ev.sam qa3 (by rw [k2.1, hsz]; decide)
  rw [← qa3]
  clear qa3 e2_10 e2_12 e2_79 e2_80
  clear e3_80
  have hu : (W.alloc (.cells #[.slice (some ⟨g, 0, none⟩) wd wd] 44)).cell? ⟨W.heap.size, 0, none⟩ = some (.slice (some ⟨g, 0, none⟩) wd wd) := (blk_cell (blk_new W _) 0).trans rfl
  refine wpList_plain rfl fun K hK => ?_
  refine Ev.append (.tmp 79) (.tmp 81) 41 44 (.slice none 0 0) 24 rfl Try.underlying41 (by kernel_rfl) rfl B al n xs e3_79 (hown.alloc _) W.heap.size (.slice (some ⟨g, 0, none⟩) wd wd) e3_81 hu rfl (by unfold maxLen; omega) (by omega) (by rw [World.size_alloc]; omega) ?_
  intro v' w' ho hg ho2
  refine hK _ _ ?_
  clear hu
  obtain ⟨a4, qa4⟩ : ∃ z_, z_ = a3.put (some 82) (v') := ⟨_, rfl⟩
  have k4 : Ev.Stay [79, 80, 81, 82, 10] a a4 := by rw [qa4]; exact k3.put (by decide) _
  have e4_10 := Ev.oth qa4 (by decide) e3_10
  have e4_12 := Ev.oth qa4 (by decide) e3_12
  have e4_79 := Ev.oth qa4 (by decide) e3_79
  have e4_81 := Ev.oth qa4 (by decide) e3_81
  have e4_82 := Ev.sam qa4 (by rw [k3.1, hsz]; decide)
  show wpList _ _ _ _ (a3.put (some 82) v') w'
  rw [← qa4]
  clear qa4 e3_10 e3_12 e3_79 e3_81
  refine Ev.pv (N := 10) (v := v') (W' := w') ?_ rfl rfl ?_
  · unfold execOp
    generalize a4.eval = ev at *
    (simp [go_sem, *])
  obtain ⟨a5, qa5⟩ : ∃ z_, z_ = a4.put (some 10) (v') := ⟨_, rfl⟩
  have k5 : Ev.Stay [79, 80, 81, 82, 10] a a5 := by rw [qa5]; exact k4.put (by decide) _
  have e5_12 := Ev.oth qa5 (by decide) e4_12
  have e5_79 := Ev.oth qa5 (by decide) e4_79
  have e5_81 := Ev.oth qa5 (by decide) e4_81
  have e5_82 := Ev.oth qa5 (by decide) e4_82
  have e5_10 := Ev.sam qa5 (by rw [k4.1, hsz]; decide)
  rw [← qa5]
  clear qa5 e4_10 e4_12 e4_79 e4_81 e4_82
  exact hQ _ _ _ k5 e5_10 ho hg (ho2.imp (fun h => h) (fun h => h.trans (by rw [World.size_alloc])))
theorem eq_calls {A1 A2 : Option Addr} {c1 c2 : Nat} {la lb : List Int} {i j t : Nat} (w : World) (ha : Kd.C (Kd.int .i64) w A1 la.length la) (hc1 : la.length ≤ c1) (hb : Kd.C (Kd.int .i64) w A2 lb.length lb) (hc2 : lb.length ≤ c2) (hla : la.length ≤ 1000) (hlb : lb.length ≤ 1000) (hi : i ≤ 1000) (hj : j ≤ 1000) (ht : 1 ≤ t ∧ t ≤ 3) :
    Calls Try.prog 24 #[.slice A1 la.length c1, .slice A2 lb.length c2, .int .i64 (i : Int), .int .i64 (j : Int), .int .i64 (t : Int)] w fun e w' => e = .returned (.int .i64 ((Eb la lb i j t (t * t) : Nat) : Int)) ∧ ∃ n, w' = w.drewN n := by
  refine (russ_eq.calls _ A1 c1 la A2 c2 lb _ _ _ _ w ha hc1 hb hc2 (eq_f hla hlb hi hj ht)).mono ?_
  rintro e w' ⟨rfl, h⟩
  exact ⟨rfl, h.out⟩
theorem row_C {W : World} {g n : Nat} {D : Nat → Int} (hg : W.heap[g]? = some (.cells (tabA n D) 5 (0, 0))) (hn : n ≤ 1000) : Kd.C (Kd.int .u8) W (some ⟨g, 0, none⟩) n ((List.range n).map D) := by
  refine Kd.C_of_reads (d := (0 : Int)) (h1 := fun _ => rfl) ⟨by simp, by omega, fun _ => ⟨_, rfl, fun j hj => ?_⟩⟩
  have h := tab_cell hg hj
  have e : (⟨g, 0, none⟩ : Addr).add j = ⟨g, j, none⟩ := by simp [Addr.add]; exact fun h => h.symm
  rw [e, h]
  congr 2
  simp [List.getD_eq_getElem?_getD, hj]
theorem rd_range {n k : Nat} {D : Nat → Int} (hk : k < n) : rd ((List.range n).map D) ((k : Nat) : Int) = D k := by
  rw [rd_d, List.getD_eq_getElem?_getD]
  simp [hk]
theorem key_calls {W : World} {g wd j t : Nat} {D : Nat → Int} (hg : W.heap[g]? = some (.cells (tabA wd D) 5 (0, 0))) (ht : 1 ≤ t ∧ t ≤ 3) (hj : j + t ≤ wd) (hw : wd ≤ 1000) (hD : ∀ c, 0 ≤ D c ∧ D c ≤ 1) :
    Calls Try.prog 25 #[.slice (some ⟨g, 0, none⟩) wd wd, .int .i64 (j : Int), .int .i64 (t : Int)] W fun e w' => e = .returned (.int .i64 (side (fun c => D (j + c)) t)) ∧ ∃ n, w' = W.drewN n := by
  have hl : ((List.range wd).map D).length = wd := by simp
  have hs : side (fun c => rd ((List.range wd).map D) ((j + c : Nat) : Int)) t = side (fun c => D (j + c)) t := side_eq fun c hc => rd_range (by omega)
  have hk := key_f (d := (List.range wd).map D) (at' := j) ht (fun c hc => by rw [rd_range (by omega)]; have := hD (j + c); omega) (by omega) (by omega)
  rw [hs] at hk
  have h := delta_Key.calls 11 (some ⟨g, 0, none⟩) wd ((List.range wd).map D) (j : Int) (t : Int) _ W (by rw [hl]; exact row_C hg hw) (by omega) hk
  rw [hl] at h
  refine h.mono ?_
  rintro e w' ⟨rfl, h⟩
  exact ⟨rfl, h.out⟩
theorem tabA_congr {n : Nat} {D E : Nat → Int} (h : ∀ c, c < n → D c = E c) : tabA n D = tabA n E := by
  unfold tabA
  congr 1
  apply List.map_congr_left
  intro c hc
  rw [h c (List.mem_range.mp hc)]
noncomputable def Ru.R (k : Nat) : Code := .region k (Ru.ops 17 k) false
noncomputable def Ru.bodyK : Code := .seq (Ru.R 15) (.seq (.cond (.tmp 65) .skip (.exit 4)) (.seq (.block 5 (.seq (Ru.R 16) (Ru.R 17))) (Ru.R 18)))
noncomputable def Ru.bodyJ : Code := .seq (.seq (Ru.R 11) (.cond (.tmp 42) .skip (.exit 2))) (.seq (.block 3 (.seq (Ru.R 13) (.seq (.seq (Ru.R 14) (.block 4 (.loop Ru.bodyK))) (Ru.R 19)))) (Ru.R 12))
noncomputable def Ru.bodyI : Code := .seq (.seq (Ru.R 6) (.cond (.tmp 34) .skip (.exit 0))) (.seq (.block 1 (.seq (Ru.R 8) (.seq (Ru.R 9) (.seq (.seq (Ru.R 10) (.block 2 (.loop Ru.bodyJ))) (.seq (Ru.R 20) (Ru.R 21)))))) (Ru.R 7))
noncomputable def Ru.code17 : Code := .seq (Ru.R 0) (.seq (Ru.R 1) (.seq (Ru.R 2) (.seq (Ru.R 3) (.seq (Ru.R 4) (.seq (.seq (Ru.R 5) (.block 0 (.loop Ru.bodyI))) (.seq (Ru.R 22) .ret))))))
def Ru.LK : List Nat := 18 :: List.range' 64 14
def Ru.LJ : List Nat := 46 :: 13 :: 14 :: 15 :: 16 :: 17 :: 18 :: (List.range' 40 6 ++ List.range' 47 32)
def Ru.LI : List Nat := 9 :: 10 :: 11 :: 12 :: 13 :: 14 :: 15 :: 16 :: 17 :: 18 :: List.range' 31 53
theorem Ru.loopK {gn wd j t n0 : Nat} {bo : Int} {E : Nat → Int} {Q : Exit → Act → World → Prop} (ht : t ≤ 3) (hw1 : wd ≤ 1000) (hj : j + t ≤ wd) (hn0 : n0 ≤ gn) (hE : ∀ c, 0 ≤ E c ∧ E c ≤ 1) (hbo : ∀ k, k < t → bits .and .i64 (bo / 2 ^ k) 1 = E (j + k)) : ∀ (m k : Nat) (a : Act) (W : World) (D : Nat → Int), k + m = t → a.tmps.size = 85 → a.eval (.tmp 12) = .slice (some ⟨gn, 0, none⟩) wd wd → a.eval (.tmp 14) = .int .i64 (j : Int) → a.eval (.tmp 15) = .int .i64 bo → a.eval (.tmp 63) = .int .i64 (t : Int) → a.eval (.tmp 64) = .int .i64 (k : Int) → W.heap[gn]? = some (.cells (tabA wd D) 5 (0, 0)) → (∀ c, c < j + k → D c = E c) →
    (∀ a' W' D', Ev.Stay Ru.LK a a' → W'.heap[gn]? = some (.cells (tabA wd D') 5 (0, 0)) → (∀ c, c < j + t → D' c = E c) → Kept W W' (fun k => k = gn) → Below n0 W W' → Q (.exit 4) a' W') → Code.rounds Try.prog Ru.bodyK Q (m + 1) a W
  | 0, k, a, W, D, hk, hsz, e12, e14, e15, e63, e64, hg, hD, hQ => by
    rw [rounds_succ]
    refine wp_seq (Rg.y15 hsz e63 e64 ?_)
    intro a1 k1 e
    refine wp_seq (wp_cond_false (by rw [e, decide_eq_false (by omega)]) (wp_exit ?_))
    show Q (.exit 4) a1 W
    obtain rfl : k = t := by omega
    exact hQ a1 W D (k1.trans (Ev.Stay.refl [] _) (by decide) (by decide)) hg hD (Kept.refl _ _) (Below.refl _ _)
  | m + 1, k, a, W, D, hk, hsz, e12, e14, e15, e63, e64, hg, hD, hQ => by
    rw [rounds_succ]
    refine wp_seq (Rg.y15 hsz e63 e64 ?_)
    intro a1 k1 e
    refine wp_seq (wp_cond_true (by rw [e, decide_eq_true (by omega)]) (wp_skip ?_))
    refine wp_seq (wp_block (wp_seq (Rg.y16 (k1.1.trans hsz) ((k1.2.2 64 (by decide)).trans e64) ?_)))
    intro a2 k2 e18
    have st2 : Ev.Stay Ru.LK a a2 := k1.trans k2 (by decide) (by decide)
    refine Rg.y17 (g := gn) (wd := wd) (j := j) (k := k) (bo := bo) (bt := E (j + k)) (D := D) (st2.1.trans hsz) ((st2.2.2 12 (by decide)).trans e12) ((st2.2.2 14 (by decide)).trans e14) e18 ((st2.2.2 15 (by decide)).trans e15) hg (by omega) hw1 (by omega) (hbo k (by omega)) ?hu8 ?_
    case hu8 =>
      have := hE (j + k)
      have e : E (j + k) = 0 ∨ E (j + k) = 1 := by omega
      rcases e with e | e <;> rw [e] <;> decide
    intro a3 k3
    show Code.wp _ _ _ _ _
    have st3 : Ev.Stay Ru.LK a a3 := st2.trans k3 (fun _ h => h) (by decide)
    have hg3 := tab_set (i := j + k) hg (E (j + k))
    have K3 : Kept W (W.setCell ⟨gn, j + k, none⟩ (.int .u8 (E (j + k)))) (fun k => k = gn) := Kept.setCell (S := fun k => k = gn) (Kept.refl W _) (p := ⟨gn, j + k, none⟩) (Or.inl rfl) _
    have B3 : Below n0 W (W.setCell ⟨gn, j + k, none⟩ (.int .u8 (E (j + k)))) := (Below.refl _ _).setCell (p := ⟨gn, j + k, none⟩) hn0 _
    generalize (W.setCell ⟨gn, j + k, none⟩ (.int .u8 (E (j + k)))) = W3 at hg3 K3 B3 ⊢
    refine Rg.y18 (k := k) (st3.1.trans hsz) ((k3.2.2 64 (by decide)).trans ((k2.2.2 64 (by decide)).trans ((k1.2.2 64 (by decide)).trans e64))) (by omega) ?_
    intro a4 k4 e64b
    show Code.rounds _ _ _ _ _ _
    have st4 : Ev.Stay Ru.LK a a4 := st3.trans k4 (fun _ h => h) (by decide)
    refine Ru.loopK ht hw1 hj hn0 hE hbo m (k + 1) a4 W3 _ (by omega) (st4.1.trans hsz) ((st4.2.2 12 (by decide)).trans e12) ((st4.2.2 14 (by decide)).trans e14) ((st4.2.2 15 (by decide)).trans e15) ((st4.2.2 63 (by decide)).trans e63) e64b hg3 ?_ ?_
    · intro c hc
      show (if c = j + k then _ else _) = _
      by_cases q : c = j + k
      · rw [if_pos q, q]
      · rw [if_neg q]; exact hD c (by omega)
    · intro a' W' D' st' hg' hD' hk' hb'
      exact hQ a' W' D' (st4.trans st' (fun _ h => h) (fun _ h => h)) hg' hD' (K3.then_ hk' (fun _ h => Or.inl h)) (B3.trans hb')
structure Ru.St (b t wd : Nat) (A1 : Option Addr) (c1 : Nat) (la : List Int) (A2 : Option Addr) (c2 : Nat) (lb : List Int) (a : Act) : Prop where
  sz : a.tmps.size = 85
  e0 : a.eval (.tmp 0) = .pointer (some ⟨b, 0, none⟩)
  e1 : a.eval (.tmp 1) = .slice A1 la.length c1
  e2 : a.eval (.tmp 2) = .slice A2 lb.length c2
  e7 : a.eval (.tmp 7) = .int .i64 (t : Int)
  e8 : a.eval (.tmp 8) = .int .i64 (wd : Int)
theorem Ru.St.of {b t wd : Nat} {A1 : Option Addr} {c1 : Nat} {la : List Int} {A2 : Option Addr} {c2 : Nat} {lb : List Int} {a a' : Act} {L : List Nat} (h : Ru.St b t wd A1 c1 la A2 c2 lb a) (k : Ev.Stay L a a') (hn : (decide (0 ∉ L) && decide (1 ∉ L) && decide (2 ∉ L) && decide (7 ∉ L) && decide (8 ∉ L)) = true) : Ru.St b t wd A1 c1 la A2 c2 lb a' := by
  simp only [Bool.and_eq_true, decide_eq_true_eq] at hn
  obtain ⟨⟨⟨⟨n0, n1⟩, n2⟩, n7⟩, n8⟩ := hn
  exact ⟨k.1.trans h.sz, (k.2.2 0 n0).trans h.e0, (k.2.2 1 n1).trans h.e1, (k.2.2 2 n2).trans h.e2, (k.2.2 7 n7).trans h.e7, (k.2.2 8 n8).trans h.e8⟩
/-- What a look tells here, in the table's steps. -/
theorem look_at {la lb : List Int} {t i j : Nat} (ht : 1 ≤ t ∧ t ≤ 3) :
    bot t ((Eb la lb i j t (t * t) : Nat) : Int) (side (fun c => Dr la lb i (j + c)) t) (side (fun r => Dc la lb j (i + r)) t) t = side (fun c => Dr la lb (i + t) (j + c)) t ∧ rig t ((Eb la lb i j t (t * t) : Nat) : Int) (side (fun c => Dr la lb i (j + c)) t) (side (fun r => Dc la lb j (i + r)) t) t = side (fun r => Dc la lb (j + t) (i + r)) t := by
  have t9 : t * t ≤ 3 * 3 := Nat.mul_le_mul ht.2 ht.2
  refine look_block (fun c hc => bitOf_side (d := fun c => Dr la lb i (j + c)) (fun _ => Dr_bd _ _) ht.2 hc) (fun r hr => bitOf_side (d := fun r => Dc la lb j (i + r)) (fun _ => Dc_bd _ _) ht.2 hr) (fun r hr c hc => ?_)
  have dm := rt_div (t := t) (r := r) (c := c) hc
  have hlt : r * t + c < t * t := by
    have : (r + 1) * t ≤ t * t := Nat.mul_le_mul (by omega) (Nat.le_refl _)
    rw [Nat.succ_mul] at this
    omega
  rw [Eb_bitOf (by omega) hlt, dm.1, dm.2]
theorem lookXI {X : Nat → Prop} {b t n0 : Nat} {q p l : Int} (w : World) (hT : TlX X w b t) (hX : ∀ k, X k → k < w.heap.size) (hn0 : n0 ≤ b) (hq : 0 ≤ q ∧ q < 2 ^ (t * t)) (hp : 0 ≤ p ∧ p < 2 ^ t) (hl : 0 ≤ l ∧ l < 2 ^ t) :
    Calls Try.prog 23 #[.pointer (some ⟨b, 0, none⟩), .int .i64 q, .int .i64 p, .int .i64 l] w fun e w' => e = .returned (.tuple #[.int .i64 (bot t q p l t), .int .i64 (rig t q p l t), .int .i64 0]) ∧ TlX X w' b t ∧ Below n0 w w' ∧ Kept w w' (fun k => k = b) := by
  obtain ⟨q, rfl⟩ := Int.eq_ofNat_of_zero_le hq.1
  obtain ⟨p, rfl⟩ := Int.eq_ofNat_of_zero_le hp.1
  obtain ⟨l, rfl⟩ := Int.eq_ofNat_of_zero_le hl.1
  exact lookX w hT hX hn0 (by exact_mod_cast hq.2) (by exact_mod_cast hp.2) (by exact_mod_cast hl.2)
theorem side_zero {d : Nat → Int} (h : ∀ i, d i = 0) : ∀ k, side d k = 0
  | 0 => rfl
  | k + 1 => by show side d k + d k * 2 ^ k = 0; rw [side_zero h k, h k]; simp
section
variable {b t wd K n0 : Nat} {A1 A2 : Option Addr} {c1 c2 : Nat} {la lb : List Int} {w : World} {Q : Exit → Act → World → Prop}
theorem Ru.loopJ {g gn i : Nat} (ht : 1 ≤ t ∧ t ≤ 3) (hw1 : wd ≤ 1000) (hwd : wd = K * t) (hla : la.length ≤ 1000) (hlb : lb.length ≤ 1000) (hc1 : la.length ≤ c1) (hc2 : lb.length ≤ c2) (hi : i ≤ 1000) (hn0 : n0 ≤ b) (hbs : b < w.heap.size) (hgn : w.heap.size ≤ gn) (hgb : g ≠ b) (hgg : g ≠ gn)
    (Ha : ∀ W', Kept w W' (fun k => k = b) → Kd.C (Kd.int .i64) W' A1 la.length la) (Hb : ∀ W', Kept w W' (fun k => k = b) → Kd.C (Kd.int .i64) W' A2 lb.length lb) :
    ∀ (m jj : Nat) (a : Act) (W : World) (D : Nat → Int), jj + m = K → Ru.St b t wd A1 c1 la A2 c2 lb a → a.eval (.tmp 9) = .slice (some ⟨g, 0, none⟩) wd wd → a.eval (.tmp 11) = .int .i64 (i : Int) → a.eval (.tmp 12) = .slice (some ⟨gn, 0, none⟩) wd wd → a.eval (.tmp 13) = .int .i64 (side (fun r => Dc la lb (jj * t) (i + r)) t) → a.eval (.tmp 14) = .int .i64 ((jj * t : Nat) : Int) →
      W.heap[g]? = some (.cells (tabA wd (Dr la lb i)) 5 (0, 0)) → W.heap[gn]? = some (.cells (tabA wd D) 5 (0, 0)) → (∀ c, c < jj * t → D c = Dr la lb (i + t) c) → TlX (fun k => k = gn) W b t → Kept w W (fun k => k = b) →
      (∀ a' W', Ev.Stay Ru.LJ a a' → W'.heap[gn]? = some (.cells (tabA wd (Dr la lb (i + t))) 5 (0, 0)) → TlX (fun k => k = gn) W' b t → Kept W W' (fun k => k = b ∨ k = gn) → Below n0 W W' → Q (.exit 2) a' W') → Code.rounds Try.prog Ru.bodyJ Q (m + 1) a W
  | 0, jj, a, W, D, hk, hs, e9, e11, e12, e13, e14, hg, hgnW, hD, hT, hK, hQ => by
    rw [rounds_succ]
    obtain rfl : jj = K := by omega
    refine wp_seq (wp_seq (Rg.y11 hs.sz e14 hs.e8 ?_))
    intro a1 k1 e
    refine wp_cond_false (by rw [e, decide_eq_false (by omega)]) (wp_exit ?_)
    show Q (.exit 2) a1 W
    rw [tabA_congr (fun c hc => hD c (by omega))] at hgnW
    exact hQ a1 W (k1.trans (Ev.Stay.refl [] _) (by decide) (by decide)) hgnW hT (Kept.refl _ _) (Below.refl _ _)
  | m + 1, jj, a, W, D, hk, hs, e9, e11, e12, e13, e14, hg, hgnW, hD, hT, hK, hQ => by
    have hjt : (jj + 1) * t = jj * t + t := Nat.succ_mul jj t
    have hjw : (jj + 1) * t ≤ K * t := Nat.mul_le_mul (by omega) (Nat.le_refl _)
    rw [rounds_succ]
    refine wp_seq (wp_seq (Rg.y11 hs.sz e14 hs.e8 ?_))
    intro a1 k1 e
    refine wp_cond_true (by rw [e, decide_eq_true (by omega)]) (wp_skip ?_)
    show Code.wp _ _ _ _ _
    have s1 := hs.of k1 (by decide)
    have t9 : t * t ≤ 3 * 3 := Nat.mul_le_mul ht.2 ht.2
    have la_ := look_at (la := la) (lb := lb) (i := i) (j := jj * t) ht
    have hqb := Eb_lt (a := la) (b := lb) (i := i) (j := jj * t) (t := t) (t * t)
    refine wp_seq (wp_block (wp_seq (Rg.y13 (q := ((Eb la lb i (jj * t) t (t * t) : Nat) : Int)) (p := side (fun c => Dr la lb i (jj * t + c)) t) (l := side (fun r => Dc la lb (jj * t) (i + r)) t) (bo := side (fun c => Dr la lb (i + t) (jj * t + c)) t) (ri := side (fun r => Dc la lb (jj * t + t) (i + r)) t) (RR := fun W' => TlX (fun k => k = gn) W' b t ∧ Below n0 W W' ∧ Kept W W' (fun k => k = b)) s1.sz s1.e0 s1.e1 s1.e2 ((k1.2.2 11 (by decide)).trans e11) ((k1.2.2 14 (by decide)).trans e14) s1.e7 ((k1.2.2 9 (by decide)).trans e9) ((k1.2.2 13 (by decide)).trans e13) (eq_calls W (Ha W hK) hc1 (Hb W hK) hc2 hla hlb hi (by omega) ht) (fun n1 => key_calls (W := W.drewN n1) (D := Dr la lb i) hg ht (by omega) hw1 (fun c => Dr_bd i c)) (fun n1 n2 => ?look) ?_)))
    case look =>
      have h := lookXI (X := fun k => k = gn) (n0 := n0) (q := ((Eb la lb i (jj * t) t (t * t) : Nat) : Int)) (p := side (fun c => Dr la lb i (jj * t + c)) t) (l := side (fun r => Dc la lb (jj * t) (i + r)) t) ((W.drewN n1).drewN n2) hT (fun k hk => by rw [hk]; exact blk_lt hgnW) hn0 ⟨by omega, by exact_mod_cast hqb⟩ (side_bd _ (fun c => Dr_bd i _) t) (side_bd _ (fun r => Dc_bd _ _) t)
      rw [la_.1, la_.2] at h
      refine h.mono ?_
      rintro e w' ⟨rfl, h1, h2, h3⟩
      exact ⟨rfl, h1, (pw_below_drewN (pw_below_drewN (Below.refl _ _) n1) n2).trans h2, h3⟩
    intro a2 W2 k2 e15 e16 hR
    obtain ⟨hT2, B2, K2⟩ := hR
    show Code.wp _ _ _ _ _
    have s2 := s1.of k2 (by decide)
    have hg2 := (K2.2 g (blk_lt hg) hgb).trans hg
    have hgn2 := (K2.2 gn (blk_lt hgnW) (by omega)).trans hgnW
    have hKw2 : Kept w W2 (fun k => k = b) := hK.then_ K2 (fun _ h => Or.inl h)
    refine wp_seq (wp_seq (Rg.y14 s2.sz s2.e7 ?_))
    intro a3 k3 e63 e64
    have s3 := s2.of k3 (by decide)
    refine wp_block (wp_loop_rounds (t + 1) ?_)
    refine Ru.loopK (gn := gn) (wd := wd) (j := jj * t) (n0 := n0) (bo := side (fun c => Dr la lb (i + t) (jj * t + c)) t) (E := Dr la lb (i + t)) ht.2 hw1 (by omega) (by omega) (fun c => Dr_bd _ c) (fun k hk => bitOf_side (d := fun c => Dr la lb (i + t) (jj * t + c)) (fun _ => Dr_bd _ _) ht.2 hk) t 0 a3 W2 D (by omega) s3.sz ((k3.2.2 12 (by decide)).trans ((k2.2.2 12 (by decide)).trans ((k1.2.2 12 (by decide)).trans e12))) ((k3.2.2 14 (by decide)).trans ((k2.2.2 14 (by decide)).trans ((k1.2.2 14 (by decide)).trans e14))) ((k3.2.2 15 (by decide)).trans e15) e63 e64 hgn2 (fun c hc => hD c (by omega)) ?_
    intro a4 W4 D4 k4 hgn4 hD4 K4 B4
    show Code.wp _ _ _ _ _
    have s4 := s3.of k4 (by decide)
    have hg4 := (K4.2 g (blk_lt hg2) hgg).trans hg2
    have hT4 : TlX (fun k => k = gn) W4 b t := hT2.kept K4 (fun _ h => h) (by omega)
    have hKw4 : Kept w W4 (fun k => k = b) := hKw2.then_ K4 (fun k h => Or.inr (by omega))
    refine Rg.y19 s4.sz ((k4.2.2 16 (by decide)).trans ((k3.2.2 16 (by decide)).trans e16)) ?_
    intro a5 k5 e13'
    show Code.wp _ _ _ _ _
    have s5 := s4.of k5 (by decide)
    have st5 : Ev.Stay Ru.LJ a a5 := (((k1.trans k2 (L'' := Ru.LJ) (by decide) (by decide)).trans k3 (L'' := Ru.LJ) (by decide) (by decide)).trans k4 (L'' := Ru.LJ) (by decide) (by decide)).trans k5 (by decide) (by decide)
    refine Rg.y12 (j := jj * t) (t := t) s5.sz ((k5.2.2 14 (by decide)).trans ((k4.2.2 14 (by decide)).trans ((k3.2.2 14 (by decide)).trans ((k2.2.2 14 (by decide)).trans ((k1.2.2 14 (by decide)).trans e14))))) s5.e7 (by omega) ht.2 ?_
    intro a6 k6 e14'
    show Code.rounds _ _ _ _ _ _
    have st6 : Ev.Stay Ru.LJ a a6 := st5.trans k6 (fun _ h => h) (by decide)
    refine Ru.loopJ ht hw1 hwd hla hlb hc1 hc2 hi hn0 hbs hgn hgb hgg Ha Hb m (jj + 1) a6 W4 D4 (by omega) (s5.of k6 (by decide)) ((st6.2.2 9 (by decide)).trans e9) ((st6.2.2 11 (by decide)).trans e11) ((st6.2.2 12 (by decide)).trans e12) ?_ ?_ hg4 hgn4 (fun c hc => hD4 c (by omega)) hT4 hKw4 ?_
    · rw [hjt]; exact (k6.2.2 13 (by decide)).trans e13'
    · rw [hjt]; exact e14'
    · intro a' W' st' hgn' hT' hK' hB'
      have K6 : Kept W W' (fun k => k = b ∨ k = gn) := ((K2.mono (fun _ h => Or.inl h)).then_ K4 (fun _ h => Or.inl (Or.inr h))).then_ hK' (fun _ h => Or.inl h)
      exact hQ a' W' (st6.trans st' (fun _ h => h) (fun _ h => h)) hgn' hT' K6 ((B2.trans B4).trans hB')
def rowsL (gs : Nat → Nat) (wd n : Nat) : List Value := (List.range n).map fun r => Value.slice (some ⟨gs r, 0, none⟩) wd wd
theorem rowsL_snoc {gs : Nat → Nat} {wd n g : Nat} : rowsL gs wd n ++ [Value.slice (some ⟨g, 0, none⟩) wd wd] = rowsL (fun r => if r = n then g else gs r) wd (n + 1) := by
  unfold rowsL
  have e1 : ∀ r ∈ List.range n, (Value.slice (some ⟨gs r, 0, none⟩) wd wd) = (Value.slice (some ⟨if r = n then g else gs r, 0, none⟩) wd wd) := by
    intro r hr
    rw [if_neg (by have := List.mem_range.mp hr; omega)]
  rw [List.range_succ, List.map_append, List.map_singleton, List.map_congr_left e1]
  show _ ++ [_] = _ ++ [Value.slice (some ⟨if n = n then g else gs n, 0, none⟩) wd wd]
  rw [if_pos rfl]
/-- The rows of steps in memory. -/
structure Rs (W : World) (B wd n : Nat) (al : Value) (gs : Nat → Nat) (D : Nat → Nat → Int) : Prop where
  own : W.ownsRow B 44 1 al n (rowsL gs wd n)
  row : ∀ r, r < n → W.heap[gs r]? = some (.cells (tabA wd (D r)) 5 (0, 0))
  base : ∀ r, r < n → B ≤ gs r
theorem Rs.kept {W W' : World} {B wd n : Nat} {al : Value} {gs : Nat → Nat} {D : Nat → Nat → Int} {X : Nat → Prop} (h : Rs W B wd n al gs D) (hk : Kept W W' X) (hX : ∀ k, X k → k < B ∨ W.heap.size ≤ k) : Rs W' B wd n al gs D := by
  refine ⟨own_move h.own (fun k hk' => hk.2 k (own_lt h.own k hk') (fun q => ?_)), fun r hr => (hk.2 _ (blk_lt (h.row r hr)) (fun q => ?_)).trans (h.row r hr), h.base⟩
  · have := hX k q; have := own_base h.own k hk'; have := own_lt h.own k hk'; omega
  · have := hX _ q; have := h.base r hr; have := blk_lt (h.row r hr); omega
theorem Ru.loopI (ht : 1 ≤ t ∧ t ≤ 3) (hw1 : wd ≤ 1000) (hwd : wd = K * t) {KA : Nat} (hKA : KA = upN la.length t) (hla : la.length ≤ 100) (hlb : lb.length ≤ 100) (hc1 : la.length ≤ c1) (hc2 : lb.length ≤ c2) (hn0 : n0 ≤ b) (hbs : b < w.heap.size)
    (Ha : ∀ W', Kept w W' (fun k => k = b) → Kd.C (Kd.int .i64) W' A1 la.length la) (Hb : ∀ W', Kept w W' (fun k => k = b) → Kd.C (Kd.int .i64) W' A2 lb.length lb) :
    ∀ (m kk : Nat) (a : Act) (W : World) (al : Value) (gs : Nat → Nat), kk + m = KA → Ru.St b t wd A1 c1 la A2 c2 lb a → a.eval (.tmp 9) = .slice (some ⟨gs kk, 0, none⟩) wd wd → a.eval (.tmp 10) = al → a.eval (.tmp 11) = .int .i64 ((kk * t : Nat) : Int) → Rs W w.heap.size wd (kk + 1) al gs (fun r => Dr la lb (r * t)) → Tl W b t → Kept w W (fun k => k = b) → Below n0 w W →
      (∀ a' W' al' gs', Ev.Stay Ru.LI a a' → a'.eval (.tmp 10) = al' → Rs W' w.heap.size wd (KA + 1) al' gs' (fun r => Dr la lb (r * t)) → Tl W' b t → Kept w W' (fun k => k = b) → Below n0 w W' → Q (.exit 0) a' W') → Code.rounds Try.prog Ru.bodyI Q (m + 1) a W
  | 0, kk, a, W, al, gs, hk, hs, e9, e10, e11, hR, hT, hK, hB, hQ => by
    have hup := upN_mul (n := la.length) ht.1
    rw [rounds_succ]
    obtain rfl : kk = KA := by omega
    refine wp_seq (wp_seq (Rg.y6 hs.sz e11 hs.e1 ?_))
    intro a1 k1 e
    refine wp_cond_false (by rw [e, decide_eq_false (by rw [hKA]; omega)]) (wp_exit ?_)
    show Q (.exit 0) a1 W
    exact hQ a1 W al gs (k1.trans (Ev.Stay.refl [] _) (by decide) (by decide)) ((k1.2.2 10 (by decide)).trans e10) hR hT hK hB
  | m + 1, kk, a, W, al, gs, hk, hs, e9, e10, e11, hR, hT, hK, hB, hQ => by
    have hup := upN_mul (n := la.length) ht.1
    have hjt : (kk + 1) * t = kk * t + t := Nat.succ_mul kk t
    have hjw : (kk + 1) * t ≤ KA * t := Nat.mul_le_mul (by omega) (Nat.le_refl _)
    rw [← hKA] at hup
    have hkk : kk ≤ kk * t := Nat.le_mul_of_pos_right kk (by omega)
    rw [rounds_succ]
    refine wp_seq (wp_seq (Rg.y6 hs.sz e11 hs.e1 ?_))
    intro a1 k1 e
    refine wp_cond_true (by rw [e, decide_eq_true (by omega)]) (wp_skip ?_)
    show Code.wp _ _ _ _ _
    have s1 := hs.of k1 (by decide)
    refine wp_seq (wp_block (wp_seq (Rg.y8 s1.sz s1.e8 hw1 ?_)))
    intro a2 k2 e12
    show Code.wp _ _ _ _ _
    have s2 := s1.of k2 (by decide)
    have hgk := hR.row kk (by omega)
    have hgkl := blk_lt hgk
    have hgb := hR.base kk (by omega)
    have hT1 := (hT.new_X (below_alloc (Below.refl W.heap.size W) (.cells (tabA wd (fun _ => 0)) 5))).mono (Y := fun k => k = W.heap.size) (fun k h => by omega)
    have B1 : Below W.heap.size W (W.alloc (.cells (tabA wd (fun _ => 0)) 5)) := below_alloc (Below.refl _ _) _
    have hgn1 : (W.alloc (.cells (tabA wd (fun _ => 0)) 5)).heap[W.heap.size]? = some (.cells (tabA wd (fun _ => 0)) 5 (0, 0)) := blk_new W _
    generalize hW1 : (W.alloc (.cells (tabA wd (fun _ => 0)) 5)) = W1 at hT1 B1 hgn1 ⊢
    clear hW1
    have K1 : Kept w W1 (fun k => k = b) := hK.below B1
    refine wp_seq (Rg.y9 s2.sz ?_)
    intro a3 k3 e13
    have s3 := s2.of k3 (by decide)
    refine wp_seq (wp_seq (Rg.y10 s3.sz ?_))
    intro a4 k4 e14
    have s4 := s3.of k4 (by decide)
    refine wp_block (wp_loop_rounds (K + 1) ?_)
    have hz : side (fun r => Dc la lb (0 * t) (kk * t + r)) t = 0 := side_zero (fun r => by unfold Dc; rw [Nat.zero_mul, Tb_i0, Tb_i0]; rfl) t
    refine Ru.loopJ (g := gs kk) (gn := W.heap.size) (i := kk * t) (n0 := n0) (K := K) ht hw1 hwd (by omega) (by omega) hc1 hc2 (by omega) hn0 hbs hK.1 (by omega) (by omega) Ha Hb K 0 a4 W1 (fun _ => 0) (by omega) s4 ((k4.2.2 9 (by decide)).trans ((k3.2.2 9 (by decide)).trans ((k2.2.2 9 (by decide)).trans ((k1.2.2 9 (by decide)).trans e9)))) ((k4.2.2 11 (by decide)).trans ((k3.2.2 11 (by decide)).trans ((k2.2.2 11 (by decide)).trans ((k1.2.2 11 (by decide)).trans e11)))) ((k4.2.2 12 (by decide)).trans ((k3.2.2 12 (by decide)).trans e12)) (by rw [hz]; exact (k4.2.2 13 (by decide)).trans e13) (by rw [Nat.zero_mul]; exact e14) ((B1.block _ hgkl).trans hgk) hgn1 (fun c hc => by rw [Nat.zero_mul] at hc; exact absurd hc (Nat.not_lt_zero _)) hT1 K1 ?_
    intro a5 W2 k5 hgn2 hT2 K2 B2
    show Code.wp _ _ _ _ _
    have s5 := s4.of k5 (by decide)
    have KW2 : Kept W W2 (fun k => k = b ∨ W.heap.size ≤ k) := (Kept.of_below B1 _).then_ K2 (fun k h => Or.inl (h.imp id (fun q => by omega)))
    have R2 : Rs W2 w.heap.size wd (kk + 1) al gs (fun r => Dr la lb (r * t)) := hR.kept KW2 (fun k h => h.imp (fun q => by omega) (fun q => q))
    have Kw2 : Kept w W2 (fun k => k = b) := hK.then_ KW2 (fun k h => h.imp (fun q => q) (fun q => Nat.le_trans hK.1 q))
    have Bw2 : Below n0 w W2 := (hB.trans (B1.mono (by have := hB.size; omega))).trans B2
    refine wp_seq (Rg.y20 (g := W.heap.size) (wd := wd) (B := w.heap.size) (n := kk + 1) (al := al) (xs := rowsL gs wd (kk + 1)) s5.sz ((k5.2.2 10 (by decide)).trans ((k4.2.2 10 (by decide)).trans ((k3.2.2 10 (by decide)).trans ((k2.2.2 10 (by decide)).trans ((k1.2.2 10 (by decide)).trans e10))))) ((k5.2.2 12 (by decide)).trans ((k4.2.2 12 (by decide)).trans ((k3.2.2 12 (by decide)).trans e12))) R2.own (by omega) Kw2.1 ?_)
    intro a6 al' W3 k6 e10' ho hg ho2
    show Code.wp _ _ _ _ _
    have s6 := s5.of k6 (by decide)
    have hgr : W2.grownBy W3 al.ownBlock := (World.grownBy_alloc W2 _ _).trans hg
    have KW3 : Kept W2 W3 (fun k => al.ownBlock = some k) := ⟨hgr.size, fun k hk hn => hgr.block k hk (fun q => hn q.symm)⟩
    have ty : ∀ k c e, W2.heap[k]? = some (.cells c e (0, 0)) → e ≠ 44 → ¬ al.ownBlock = some k := by
      intro k c e hc he q
      obtain ⟨cs, h2⟩ := own_typed R2.own k q
      rw [hc] at h2
      injection h2 with h2
      injection h2 with _ h3
      exact he h3
    have hT3 : Tl W3 b t := by
      obtain ⟨c, hc⟩ := hT2.tl.typed
      exact hT2.tl.kept KW3 (ty b c _ hc (by decide)) (fun g c hc => ty g c _ hc (by decide))
    have R3 : Rs W3 w.heap.size wd (kk + 1 + 1) al' (fun r => if r = kk + 1 then W.heap.size else gs r) (fun r => Dr la lb (r * t)) := by
      refine ⟨?_, fun r hr => ?_, fun r hr => ?_⟩
      · rw [← rowsL_snoc]; exact ho
      · by_cases q : r = kk + 1
        · rw [if_pos q, q, hjt]
          exact (KW3.2 _ (blk_lt hgn2) (ty _ _ _ hgn2 (by decide))).trans hgn2
        · rw [if_neg q]
          have h := R2.row r (by omega)
          exact (KW3.2 _ (blk_lt h) (ty _ _ _ h (by decide))).trans h
      · by_cases q : r = kk + 1
        · rw [if_pos q]; exact hK.1
        · rw [if_neg q]; exact R2.base r (by omega)
    have Kw3 : Kept w W3 (fun k => k = b) := Kw2.then_ KW3 (fun k h => Or.inr (own_base R2.own k h))
    have Bw3 : Below n0 w W3 := Bw2.grown hgr (by have := Kw2.1; omega) (fun k h => by have := own_base R2.own k h; omega)
    refine Rg.y21 s6.sz ((k6.2.2 12 (by decide)).trans ((k5.2.2 12 (by decide)).trans ((k4.2.2 12 (by decide)).trans ((k3.2.2 12 (by decide)).trans e12)))) ?_
    intro a7 k7 e9'
    show Code.wp _ _ _ _ _
    have s7 := s6.of k7 (by decide)
    have st7 : Ev.Stay Ru.LI a a7 := ((((((k1.trans k2 (L'' := Ru.LI) (by decide) (by decide)).trans k3 (L'' := Ru.LI) (by decide) (by decide)).trans k4 (L'' := Ru.LI) (by decide) (by decide)).trans k5 (L'' := Ru.LI) (by decide) (by decide)).trans k6 (L'' := Ru.LI) (by decide) (by decide)).trans k7 (by decide) (by decide))
    have f11 : a7.eval (.tmp 11) = .int .i64 ((kk * t : Nat) : Int) := (k7.2.2 11 (by decide)).trans ((k6.2.2 11 (by decide)).trans ((k5.2.2 11 (by decide)).trans ((k4.2.2 11 (by decide)).trans ((k3.2.2 11 (by decide)).trans ((k2.2.2 11 (by decide)).trans ((k1.2.2 11 (by decide)).trans e11))))))
    refine Rg.y7 (j := kk * t) (t := t) s7.sz f11 s7.e7 (by omega) ht.2 ?_
    intro a8 k8 e11'
    show Code.rounds _ _ _ _ _ _
    have st8 : Ev.Stay Ru.LI a a8 := st7.trans k8 (fun _ h => h) (by decide)
    refine Ru.loopI ht hw1 hwd hKA hla hlb hc1 hc2 hn0 hbs Ha Hb m (kk + 1) a8 W3 al' (fun r => if r = kk + 1 then W.heap.size else gs r) (by omega) (s7.of k8 (by decide)) ?_ ((k8.2.2 10 (by decide)).trans ((k7.2.2 10 (by decide)).trans e10')) (by rw [hjt]; exact e11') R3 hT3 Kw3 Bw3 ?_
    · show _ = Value.slice (some ⟨if kk + 1 = kk + 1 then W.heap.size else gs (kk + 1), 0, none⟩) wd wd
      rw [if_pos rfl]
      exact (k8.2.2 9 (by decide)).trans e9'
    · intro a' W' al2 gs2 st' h10 hR' hT' hK' hB'
      exact hQ a' W' al2 gs2 (st8.trans st' (fun _ h => h) (fun _ h => h)) h10 hR' hT' hK' hB'
end
theorem Ru.res {a : Act} {W : World} {v : Value} (h6 : a.eval (.tmp 6) = v) : (results Try.f17 a.tmps).run Try.prog W = .ok v W := by
  have e6 : a.tmps[6]?.getD undef = v := by simpa [Act.eval] using h6
  simp [results, Try.results17, go_sem, e6]
/-- russ.steps: the rows of the table's steps behind each row of squares. -/
theorem steps_calls {b t n0 : Nat} {A1 A2 : Option Addr} {c1 c2 : Nat} {la lb : List Int} (w : World) (hT : Tl w b t) (hla : la.length ≤ 100) (hlb : lb.length ≤ 100) (hc1 : la.length ≤ c1) (hc2 : lb.length ≤ c2) (hn0 : n0 ≤ b)
    (Ha : ∀ W', Kept w W' (fun k => k = b) → Kd.C (Kd.int .i64) W' A1 la.length la) (Hb : ∀ W', Kept w W' (fun k => k = b) → Kd.C (Kd.int .i64) W' A2 lb.length lb) :
    Calls Try.prog 17 #[.pointer (some ⟨b, 0, none⟩), .slice A1 la.length c1, .slice A2 lb.length c2] w fun e w' => ∃ al gs, e = .returned al ∧ Rs w' w.heap.size (upN lb.length t * t) (upN la.length t + 1) al gs (fun r => Dr la lb (r * t)) ∧ Tl w' b t ∧ Kept w w' (fun k => k = b) ∧ Below n0 w w' := by
  have ht := hT.1
  have hbs := hT.lt
  have hup := upN_mul (n := lb.length) ht.1
  refine calls_of_wp Try.func17 rfl ?_
  show Ru.code17.wp _ _ _ _
  generalize hR : (fun (e : Ending) (w' : World) => ∃ al gs, e = .returned al ∧ Rs w' w.heap.size (upN lb.length t * t) (upN la.length t + 1) al gs (fun r => Dr la lb (r * t)) ∧ Tl w' b t ∧ Kept w w' (fun k => k = b) ∧ Below n0 w w') = R
  obtain ⟨a0, ha0⟩ : ∃ a0 : Act, a0 = { tmps := #[.pointer (some ⟨b, 0, none⟩), .slice A1 la.length c1, .slice A2 lb.length c2] ++ Array.replicate (Try.f17.ntmps - (#[.pointer (some ⟨b, 0, none⟩), .slice A1 la.length c1, .slice A2 lb.length c2] : Array Value).size) undef, defers := [] } := ⟨_, rfl⟩
  have hsz : a0.tmps.size = 85 := by rw [ha0]; simp [Try.ntmps17]
  have e0 : a0.eval (.tmp 0) = .pointer (some ⟨b, 0, none⟩) := by rw [ha0]; exact Ev.entry rfl
  have e1 : a0.eval (.tmp 1) = .slice A1 la.length c1 := by rw [ha0]; exact Ev.entry rfl
  have e2 : a0.eval (.tmp 2) = .slice A2 lb.length c2 := by rw [ha0]; exact Ev.entry rfl
  have hd0 : a0.defers = [] := by rw [ha0]
  rw [← ha0]
  clear ha0
  refine wp_seq (Rg.y0 hsz ?_)
  intro a1 k1
  refine wp_seq (Rg.y1 (b := b) (t := t) (k1.1.trans hsz) ((k1.2.2 0 (by decide)).trans e0) hT.cell ?_)
  intro a2 k2 e7
  have st2 : Ev.Stay [6, 19, 20, 7] a0 a2 := k1.trans k2 (by decide) (by decide)
  refine wp_seq (Rg.y2 (t := t) (wd := upN lb.length t * t) (st2.1.trans hsz) ((st2.2.2 2 (by decide)).trans e2) e7 ht (by omega) rfl (by omega) ?_)
  intro a3 nd k3 e8
  have st3 : Ev.Stay (6 :: 19 :: 20 :: 7 :: 8 :: List.range' 21 6) a0 a3 := st2.trans k3 (by decide) (by decide)
  have s3 : Ru.St b t (upN lb.length t * t) A1 c1 la A2 c2 lb a3 := ⟨st3.1.trans hsz, (st3.2.2 0 (by decide)).trans e0, (st3.2.2 1 (by decide)).trans e1, (st3.2.2 2 (by decide)).trans e2, (k3.2.2 7 (by decide)).trans e7, e8⟩
  have hd3 : a3.defers = [] := st3.2.1.trans hd0
  clear k1 k2 k3 st2 st3
  have B0 : Below w.heap.size w (w.drewN nd) := pw_below_drewN (Below.refl _ _) nd
  have hz0 : (w.drewN nd).heap.size = w.heap.size := rfl
  generalize (w.drewN nd) = w1 at B0 hz0 ⊢
  refine wp_seq (Rg.y3 s3.sz s3.e8 (by omega) ?_)
  intro a4 k4 e9
  have s4 := s3.of k4 (by decide)
  have B1 : Below w.heap.size w (w1.alloc (.cells (tabA (upN lb.length t * t) (fun _ => 0)) 5)) := below_alloc B0 _
  have hg1 : (w1.alloc (.cells (tabA (upN lb.length t * t) (fun _ => 0)) 5)).heap[w1.heap.size]? = some (.cells (tabA (upN lb.length t * t) (fun _ => 0)) 5 (0, 0)) := blk_new w1 _
  rw [hz0] at hg1 e9
  generalize (w1.alloc (.cells (tabA (upN lb.length t * t) (fun _ => 0)) 5)) = w2 at B1 hg1 ⊢
  refine wp_seq (Rg.y4 (g := w.heap.size) (wd := upN lb.length t * t) s4.sz e9 ?_)
  intro a5 k5 e10
  have s5 := s4.of k5 (by decide)
  have B2 : Below w.heap.size w (w2.alloc (.cells #[.slice (some ⟨w.heap.size, 0, none⟩) (upN lb.length t * t) (upN lb.length t * t)] 44)) := below_alloc B1 _
  have O2 : (w2.alloc (.cells #[.slice (some ⟨w.heap.size, 0, none⟩) (upN lb.length t * t) (upN lb.length t * t)] 44)).ownsRow w.heap.size 44 1 (.slice (some ⟨w2.heap.size, 0, none⟩) 1 1) 1 (rowsL (fun _ => w.heap.size) (upN lb.length t * t) 1) := World.ownsRow_lit w2 #[.slice (some ⟨w.heap.size, 0, none⟩) (upN lb.length t * t) (upN lb.length t * t)] 1 B1.size (by unfold maxLen; omega) rfl
  have hg2 : (w2.alloc (.cells #[.slice (some ⟨w.heap.size, 0, none⟩) (upN lb.length t * t) (upN lb.length t * t)] 44)).heap[w.heap.size]? = some (.cells (tabA (upN lb.length t * t) (fun _ => 0)) 5 (0, 0)) := blk_alloc hg1 _
  generalize (w2.alloc (.cells #[.slice (some ⟨w.heap.size, 0, none⟩) (upN lb.length t * t) (upN lb.length t * t)] 44)) = w3 at B2 O2 hg2 ⊢
  refine wp_seq (wp_seq (Rg.y5 s5.sz ?_))
  intro a6 k6 e11
  have s6 := s5.of k6 (by decide)
  refine wp_block (wp_loop_rounds (upN la.length t + 1) ?_)
  refine Ru.loopI (w := w) (n0 := n0) (K := upN lb.length t) (KA := upN la.length t) ht (by omega) rfl rfl hla hlb hc1 hc2 hn0 hbs Ha Hb (upN la.length t) 0 a6 w3 (.slice (some ⟨w2.heap.size, 0, none⟩) 1 1) (fun _ => w.heap.size) (by omega) s6 ((k6.2.2 9 (by decide)).trans ((k5.2.2 9 (by decide)).trans e9)) ((k6.2.2 10 (by decide)).trans e10) (by rw [Nat.zero_mul]; exact e11) ⟨O2, fun r hr => ?_, fun r hr => Nat.le_refl _⟩ (hT.below B2) (Kept.of_below B2 _) (B2.mono (by omega)) ?_
  · obtain rfl : r = 0 := by omega
    have e : tabA (upN lb.length t * t) (fun _ => 0) = tabA (upN lb.length t * t) (Dr la lb (0 * t)) := tabA_congr fun c _ => by unfold Dr; rw [Nat.zero_mul, Tb_0, Tb_0]; rfl
    rw [← e]; exact hg2
  intro a7 W' al gs k7 e10' hRs hT' hK' hB'
  show Code.wp _ _ _ _ _
  have s7 := s6.of k7 (by decide)
  refine wp_seq (Rg.y22 s7.sz e10' ?_)
  intro a8 k8 f6
  refine wp_ret ⟨k8.2.1.trans (k7.2.1.trans (k6.2.1.trans (k5.2.1.trans (k4.2.1.trans hd3)))), _, Ru.res f6, ?_⟩
  rw [← hR]
  exact ⟨al, gs, rfl, hRs, hT', hK', hB'⟩
set_option maxHeartbeats 2000000 in
theorem Rg.z0 {id : Nat} {Q : Exit → Act → World → Prop} {a : Act} {W : World} 
    (hsz : a.tmps.size = 22)  
    (hQ : ∀ a', Ev.Stay [6, 7] a a' → Q .normal a' (W)) : (Code.region id (Ru.ops 9 0) false).wp Try.prog Q a W := by
  refine wp_region_list ?_
  show wpList _ _ _ (_ :: _ :: []) _ _
  have k0 : Ev.Stay [6, 7] a a := Ev.Stay.refl [6, 7] a
  refine Ev.pv (N := 6) (v := .int .i64 (0)) (W' := W) ?_ rfl rfl ?_
  · have ec0 : a.eval (.const (.int .i64 (0))) = .int .i64 (0) := rfl
    unfold execOp
    generalize a.eval = ev at *
    go_simp
  obtain ⟨a1, qa1⟩ : ∃ z_, z_ = a.put (some 6) (.int .i64 (0)) := ⟨_, rfl⟩
  have k1 : Ev.Stay [6, 7] a a1 := by rw [qa1]; exact k0.put (by decide) _
  have e1_6 := Ev.sam qa1 (by rw [k0.1, hsz]; decide)
  rw [← qa1]
  clear qa1 
  refine Ev.pv (N := 7) (v := .int .i64 (0)) (W' := W) ?_ rfl rfl ?_
  · have ec0 : a1.eval (.const (.int .i64 (0))) = .int .i64 (0) := rfl
    unfold execOp
    generalize a1.eval = ev at *
    go_simp
  obtain ⟨a2, qa2⟩ : ∃ z_, z_ = a1.put (some 7) (.int .i64 (0)) := ⟨_, rfl⟩
  have k2 : Ev.Stay [6, 7] a a2 := by rw [qa2]; exact k1.put (by decide) _
  have e2_6 := Ev.oth qa2 (by decide) e1_6
  have e2_7 := Ev.sam qa2 (by rw [k1.1, hsz]; decide)
  rw [← qa2]
  clear qa2 e1_6
  exact hQ _ k2 
set_option maxHeartbeats 2000000 in
theorem Rg.z1 {id : Nat} {Q : Exit → Act → World → Prop} {a : Act} {W : World} {b : Nat}
    (hsz : a.tmps.size = 22)  (h0 : a.eval (.tmp 0) = .pointer (some ⟨b, 0, none⟩))
    (hQ : ∀ a', Ev.Stay [9, 10] a a' → a'.eval (.tmp 10) = .bool false → Q .normal a' (W)) : (Code.region id (Ru.ops 9 1) false).wp Try.prog Q a W := by
  refine wp_region_list ?_
  show wpList _ _ _ (_ :: _ :: []) _ _
  have k0 : Ev.Stay [9, 10] a a := Ev.Stay.refl [9, 10] a
  refine Ev.pv (N := 9) (v := .pointer (some ⟨b, 0, none⟩)) (W' := W) ?_ rfl rfl ?_
  · unfold execOp
    generalize a.eval = ev at *
    go_simp
  obtain ⟨a1, qa1⟩ : ∃ z_, z_ = a.put (some 9) (.pointer (some ⟨b, 0, none⟩)) := ⟨_, rfl⟩
  have k1 : Ev.Stay [9, 10] a a1 := by rw [qa1]; exact k0.put (by decide) _
  have e1_0 := Ev.oth qa1 (by decide) h0
  have e1_9 := Ev.sam qa1 (by rw [k0.1, hsz]; decide)
  rw [← qa1]
  clear qa1 
  refine Ev.pv (N := 10) (v := .bool false) (W' := W) ?_ rfl rfl ?_
  · have ec0 : a1.eval (.const (.pointer none)) = .pointer none := rfl
    unfold execOp
    generalize a1.eval = ev at *
    go_simp
  obtain ⟨a2, qa2⟩ : ∃ z_, z_ = a1.put (some 10) (.bool false) := ⟨_, rfl⟩
  have k2 : Ev.Stay [9, 10] a a2 := by rw [qa2]; exact k1.put (by decide) _
  have e2_0 := Ev.oth qa2 (by decide) e1_0
  have e2_9 := Ev.oth qa2 (by decide) e1_9
  have e2_10 := Ev.sam qa2 (by rw [k1.1, hsz]; decide)
  rw [← qa2]
  clear qa2 e1_0 e1_9
  exact hQ _ k2 e2_10
set_option maxHeartbeats 2000000 in
theorem Rg.z2 {id : Nat} {Q : Exit → Act → World → Prop} {a : Act} {W : World} 
    (hsz : a.tmps.size = 22)  
    (hQ : ∀ a', Ev.Stay [6, 7] a a' → a'.eval (.tmp 6) = .int .i64 (0) → a'.eval (.tmp 7) = .int .i64 (1) → Q .normal a' (W)) : (Code.region id (Ru.ops 9 2) false).wp Try.prog Q a W := by
  refine wp_region_list ?_
  show wpList _ _ _ (_ :: _ :: []) _ _
  have k0 : Ev.Stay [6, 7] a a := Ev.Stay.refl [6, 7] a
  refine Ev.pv (N := 6) (v := .int .i64 (0)) (W' := W) ?_ rfl rfl ?_
  · have ec0 : a.eval (.const (.int .i64 (0))) = .int .i64 (0) := rfl
    unfold execOp
    generalize a.eval = ev at *
    go_simp
  obtain ⟨a1, qa1⟩ : ∃ z_, z_ = a.put (some 6) (.int .i64 (0)) := ⟨_, rfl⟩
  have k1 : Ev.Stay [6, 7] a a1 := by rw [qa1]; exact k0.put (by decide) _
  have e1_6 := Ev.sam qa1 (by rw [k0.1, hsz]; decide)
  rw [← qa1]
  clear qa1 
  refine Ev.pv (N := 7) (v := .int .i64 (1)) (W' := W) ?_ rfl rfl ?_
  · have ec0 : a1.eval (.const (.int .i64 (1))) = .int .i64 (1) := rfl
    unfold execOp
    generalize a1.eval = ev at *
    go_simp
  obtain ⟨a2, qa2⟩ : ∃ z_, z_ = a1.put (some 7) (.int .i64 (1)) := ⟨_, rfl⟩
  have k2 : Ev.Stay [6, 7] a a2 := by rw [qa2]; exact k1.put (by decide) _
  have e2_6 := Ev.oth qa2 (by decide) e1_6
  have e2_7 := Ev.sam qa2 (by rw [k1.1, hsz]; decide)
  rw [← qa2]
  clear qa2 e1_6
  exact hQ _ k2 e2_6 e2_7
set_option maxHeartbeats 2000000 in
theorem Rg.z3 {id : Nat} {Q : Exit → Act → World → Prop} {a : Act} {W : World} {b : Nat} {A1 A2 : Option Addr} {c1 c2 : Nat} {la lb : List Int} {RR : Value → World → Prop}
    (hsz : a.tmps.size = 22)  (h0 : a.eval (.tmp 0) = .pointer (some ⟨b, 0, none⟩)) (h1 : a.eval (.tmp 1) = .slice A1 la.length c1) (h2 : a.eval (.tmp 2) = .slice A2 lb.length c2) (g1 : Calls Try.prog 17 #[.pointer (some ⟨b, 0, none⟩), .slice A1 la.length c1, .slice A2 lb.length c2] W fun e w' => ∃ v, e = .returned v ∧ RR v w')
    (hQ : ∀ a' v W', Ev.Stay [11, 12, 13, 14, 8] a a' → a'.eval (.tmp 8) = v → RR v W' → Q .normal a' W') : (Code.region id (Ru.ops 9 3) false).wp Try.prog Q a W := by
  refine wp_region_list ?_
  show wpList _ _ _ (_ :: _ :: _ :: _ :: _ :: []) _ _
  have k0 : Ev.Stay [11, 12, 13, 14, 8] a a := Ev.Stay.refl [11, 12, 13, 14, 8] a
  refine Ev.pv (N := 11) (v := .pointer (some ⟨b, 0, none⟩)) (W' := W) ?_ rfl rfl ?_
  · unfold execOp
    generalize a.eval = ev at *
    go_simp
  obtain ⟨a1, qa1⟩ : ∃ z_, z_ = a.put (some 11) (.pointer (some ⟨b, 0, none⟩)) := ⟨_, rfl⟩
  have k1 : Ev.Stay [11, 12, 13, 14, 8] a a1 := by rw [qa1]; exact k0.put (by decide) _
  have e1_0 := Ev.oth qa1 (by decide) h0
  have e1_1 := Ev.oth qa1 (by decide) h1
  have e1_2 := Ev.oth qa1 (by decide) h2
  have e1_11 := Ev.sam qa1 (by rw [k0.1, hsz]; decide)
  rw [← qa1]
  clear qa1 
  refine Ev.pv (N := 12) (v := .slice A1 la.length c1) (W' := W) ?_ rfl rfl ?_
  · unfold execOp
    generalize a1.eval = ev at *
    go_simp
  obtain ⟨a2, qa2⟩ : ∃ z_, z_ = a1.put (some 12) (.slice A1 la.length c1) := ⟨_, rfl⟩
  have k2 : Ev.Stay [11, 12, 13, 14, 8] a a2 := by rw [qa2]; exact k1.put (by decide) _
  have e2_0 := Ev.oth qa2 (by decide) e1_0
  have e2_1 := Ev.oth qa2 (by decide) e1_1
  have e2_2 := Ev.oth qa2 (by decide) e1_2
  have e2_11 := Ev.oth qa2 (by decide) e1_11
  have e2_12 := Ev.sam qa2 (by rw [k1.1, hsz]; decide)
  rw [← qa2]
  clear qa2 e1_0 e1_1 e1_2 e1_11
  refine Ev.pv (N := 13) (v := .slice A2 lb.length c2) (W' := W) ?_ rfl rfl ?_
  · unfold execOp
    generalize a2.eval = ev at *
    go_simp
  obtain ⟨a3, qa3⟩ : ∃ z_, z_ = a2.put (some 13) (.slice A2 lb.length c2) := ⟨_, rfl⟩
  have k3 : Ev.Stay [11, 12, 13, 14, 8] a a3 := by rw [qa3]; exact k2.put (by decide) _
  have e3_0 := Ev.oth qa3 (by decide) e2_0
  have e3_1 := Ev.oth qa3 (by decide) e2_1
  have e3_2 := Ev.oth qa3 (by decide) e2_2
  have e3_11 := Ev.oth qa3 (by decide) e2_11
  have e3_12 := Ev.oth qa3 (by decide) e2_12
  have e3_13 := Ev.sam qa3 (by rw [k2.1, hsz]; decide)
  rw [← qa3]
  clear qa3 e2_0 e2_1 e2_2 e2_11 e2_12
  refine Ev.pc (N := 14) (f := 17) (args := #[.pointer (some ⟨b, 0, none⟩), .slice A1 la.length c1, .slice A2 lb.length c2]) ?_ rfl rfl (g1.mono ?_)
  · have ef : a3.eval (.func 17) = .func (.func 17) #[] #[] := rfl
    unfold execOp
    generalize a3.eval = ev at *
    go_simp
  rintro e_ w_ ⟨v, rfl, hR⟩
  refine ⟨_, rfl, ?_⟩
  obtain ⟨a4, qa4⟩ : ∃ z_, z_ = a3.put (some 14) (v) := ⟨_, rfl⟩
  have k4 : Ev.Stay [11, 12, 13, 14, 8] a a4 := by rw [qa4]; exact k3.put (by decide) _
  have e4_0 := Ev.oth qa4 (by decide) e3_0
  have e4_1 := Ev.oth qa4 (by decide) e3_1
  have e4_2 := Ev.oth qa4 (by decide) e3_2
  have e4_11 := Ev.oth qa4 (by decide) e3_11
  have e4_12 := Ev.oth qa4 (by decide) e3_12
  have e4_13 := Ev.oth qa4 (by decide) e3_13
  have e4_14 := Ev.sam qa4 (by rw [k3.1, hsz]; decide)
  rw [← qa4]
  clear qa4 e3_0 e3_1 e3_2 e3_11 e3_12 e3_13
  clear g1
  refine Ev.pv (N := 8) (v := v) (W' := w_) ?_ rfl rfl ?_
  · unfold execOp
    generalize a4.eval = ev at *
    (simp [go_sem, *])
  obtain ⟨a5, qa5⟩ : ∃ z_, z_ = a4.put (some 8) (v) := ⟨_, rfl⟩
  have k5 : Ev.Stay [11, 12, 13, 14, 8] a a5 := by rw [qa5]; exact k4.put (by decide) _
  have e5_0 := Ev.oth qa5 (by decide) e4_0
  have e5_1 := Ev.oth qa5 (by decide) e4_1
  have e5_2 := Ev.oth qa5 (by decide) e4_2
  have e5_11 := Ev.oth qa5 (by decide) e4_11
  have e5_12 := Ev.oth qa5 (by decide) e4_12
  have e5_13 := Ev.oth qa5 (by decide) e4_13
  have e5_14 := Ev.oth qa5 (by decide) e4_14
  have e5_8 := Ev.sam qa5 (by rw [k4.1, hsz]; decide)
  rw [← qa5]
  clear qa5 e4_0 e4_1 e4_2 e4_11 e4_12 e4_13 e4_14
  exact hQ _ _ _ k5 e5_8 hR
set_option maxHeartbeats 2000000 in
theorem Rg.z4 {id : Nat} {Q : Exit → Act → World → Prop} {a : Act} {W : World} {ga n cap g wd : Nat} {s : Int}
    (hsz : a.tmps.size = 22)  (h8 : a.eval (.tmp 8) = .slice (some ⟨ga, 0, none⟩) (n + 1) cap) (hn : n ≤ 1000) (hc : W.cell? ⟨ga, n, none⟩ = some (.slice (some ⟨g, 0, none⟩) wd wd)) (g1 : Calls Try.prog 18 #[.slice (some ⟨g, 0, none⟩) wd wd] W fun e w' => e = .returned (.int .i64 (s)) ∧ ∃ n, w' = W.drewN n)
    (hQ : ∀ a' nd, Ev.Stay [15, 16, 17, 18, 19, 20, 21, 6, 7] a a' → a'.eval (.tmp 6) = .int .i64 (s) → a'.eval (.tmp 7) = .int .i64 (0) → Q .normal a' (W.drewN nd)) : (Code.region id (Ru.ops 9 4) false).wp Try.prog Q a W := by
  refine wp_region_list ?_
  show wpList _ _ _ (_ :: _ :: _ :: _ :: _ :: _ :: _ :: _ :: _ :: []) _ _
  have k0 : Ev.Stay [15, 16, 17, 18, 19, 20, 21, 6, 7] a a := Ev.Stay.refl [15, 16, 17, 18, 19, 20, 21, 6, 7] a
  refine Ev.pv (N := 15) (v := .slice (some ⟨ga, 0, none⟩) (n + 1) cap) (W' := W) ?_ rfl rfl ?_
  · unfold execOp
    generalize a.eval = ev at *
    go_simp
  obtain ⟨a1, qa1⟩ : ∃ z_, z_ = a.put (some 15) (.slice (some ⟨ga, 0, none⟩) (n + 1) cap) := ⟨_, rfl⟩
  have k1 : Ev.Stay [15, 16, 17, 18, 19, 20, 21, 6, 7] a a1 := by rw [qa1]; exact k0.put (by decide) _
  have e1_8 := Ev.oth qa1 (by decide) h8
  have e1_15 := Ev.sam qa1 (by rw [k0.1, hsz]; decide)
  rw [← qa1]
  clear qa1 
  refine Ev.pv (N := 16) (v := .slice (some ⟨ga, 0, none⟩) (n + 1) cap) (W' := W) ?_ rfl rfl ?_
  · unfold execOp
    generalize a1.eval = ev at *
    go_simp
  obtain ⟨a2, qa2⟩ : ∃ z_, z_ = a1.put (some 16) (.slice (some ⟨ga, 0, none⟩) (n + 1) cap) := ⟨_, rfl⟩
  have k2 : Ev.Stay [15, 16, 17, 18, 19, 20, 21, 6, 7] a a2 := by rw [qa2]; exact k1.put (by decide) _
  have e2_8 := Ev.oth qa2 (by decide) e1_8
  have e2_15 := Ev.oth qa2 (by decide) e1_15
  have e2_16 := Ev.sam qa2 (by rw [k1.1, hsz]; decide)
  rw [← qa2]
  clear qa2 e1_8 e1_15
  refine Ev.pv (N := 17) (v := .int .i64 ((n + 1 : Nat) : Int)) (W' := W) ?_ rfl rfl ?_
  · unfold execOp
    generalize a2.eval = ev at *
    go_simp
  obtain ⟨a3, qa3⟩ : ∃ z_, z_ = a2.put (some 17) (.int .i64 ((n + 1 : Nat) : Int)) := ⟨_, rfl⟩
  have k3 : Ev.Stay [15, 16, 17, 18, 19, 20, 21, 6, 7] a a3 := by rw [qa3]; exact k2.put (by decide) _
  have e3_8 := Ev.oth qa3 (by decide) e2_8
  have e3_15 := Ev.oth qa3 (by decide) e2_15
  have e3_16 := Ev.oth qa3 (by decide) e2_16
  have e3_17 := Ev.sam qa3 (by rw [k2.1, hsz]; decide)
  rw [← qa3]
  clear qa3 e2_8 e2_15 e2_16
  clear e3_16
  refine Ev.pv (N := 18) (v := .int .i64 (n : Int)) (W' := W) ?_ rfl rfl ?_
  · have ec0 : a3.eval (.const (.int .i64 (1))) = .int .i64 (1) := rfl
    have d_ : (n : Int) + 1 - 1 = (n : Int) := by omega
    have d2_ : IntKind.i64.wrap (n : Int) = (n : Int) := wr (by omega) (by omega)
    unfold execOp
    generalize a3.eval = ev at *
    (go_simp; try (exact wr (by omega) (by omega)))
  obtain ⟨a4, qa4⟩ : ∃ z_, z_ = a3.put (some 18) (.int .i64 (n : Int)) := ⟨_, rfl⟩
  have k4 : Ev.Stay [15, 16, 17, 18, 19, 20, 21, 6, 7] a a4 := by rw [qa4]; exact k3.put (by decide) _
  have e4_8 := Ev.oth qa4 (by decide) e3_8
  have e4_15 := Ev.oth qa4 (by decide) e3_15
  have e4_17 := Ev.oth qa4 (by decide) e3_17
  have e4_18 := Ev.sam qa4 (by rw [k3.1, hsz]; decide)
  rw [← qa4]
  clear qa4 e3_8 e3_15 e3_17
  clear e4_17
  refine Ev.pv (N := 19) (v := .pointer (some ⟨ga, n, none⟩)) (W' := W) ?_ rfl rfl ?_
  · have lk_ : (n : Int) < (n : Int) + 1 := by omega
    have lk0_ : (0 : Int) ≤ (n : Int) := by omega
    unfold execOp
    generalize a4.eval = ev at *
    go_simp
  obtain ⟨a5, qa5⟩ : ∃ z_, z_ = a4.put (some 19) (.pointer (some ⟨ga, n, none⟩)) := ⟨_, rfl⟩
  have k5 : Ev.Stay [15, 16, 17, 18, 19, 20, 21, 6, 7] a a5 := by rw [qa5]; exact k4.put (by decide) _
  have e5_8 := Ev.oth qa5 (by decide) e4_8
  have e5_15 := Ev.oth qa5 (by decide) e4_15
  have e5_18 := Ev.oth qa5 (by decide) e4_18
  have e5_19 := Ev.sam qa5 (by rw [k4.1, hsz]; decide)
  rw [← qa5]
  clear qa5 e4_8 e4_15 e4_18
  clear e5_15
  clear e5_18
  refine Ev.pv (N := 20) (v := .slice (some ⟨g, 0, none⟩) wd wd) (W' := W) ?_ rfl rfl ?_
  · have hc_ := hc
    unfold execOp
    generalize a5.eval = ev at *
    go_simp
  obtain ⟨a6, qa6⟩ : ∃ z_, z_ = a5.put (some 20) (.slice (some ⟨g, 0, none⟩) wd wd) := ⟨_, rfl⟩
  have k6 : Ev.Stay [15, 16, 17, 18, 19, 20, 21, 6, 7] a a6 := by rw [qa6]; exact k5.put (by decide) _
  have e6_8 := Ev.oth qa6 (by decide) e5_8
  have e6_19 := Ev.oth qa6 (by decide) e5_19
  have e6_20 := Ev.sam qa6 (by rw [k5.1, hsz]; decide)
  rw [← qa6]
  clear qa6 e5_8 e5_19
  clear e6_19
  refine Ev.pc (N := 21) (f := 18) (args := #[.slice (some ⟨g, 0, none⟩) wd wd]) ?_ rfl rfl (g1.mono ?_)
  · have ef : a6.eval (.func 18) = .func (.func 18) #[] #[] := rfl
    unfold execOp
    generalize a6.eval = ev at *
    go_simp
  rintro e_ w_ ⟨rfl, nd, rfl⟩
  refine ⟨_, rfl, ?_⟩
  obtain ⟨a7, qa7⟩ : ∃ z_, z_ = a6.put (some 21) (.int .i64 (s)) := ⟨_, rfl⟩
  have k7 : Ev.Stay [15, 16, 17, 18, 19, 20, 21, 6, 7] a a7 := by rw [qa7]; exact k6.put (by decide) _
  have e7_8 := Ev.oth qa7 (by decide) e6_8
  have e7_20 := Ev.oth qa7 (by decide) e6_20
  have e7_21 := Ev.sam qa7 (by rw [k6.1, hsz]; decide)
  rw [← qa7]
  clear qa7 e6_8 e6_20
  refine Ev.pv (N := 6) (v := .int .i64 (s)) (W' := W.drewN nd) ?_ rfl rfl ?_
  · unfold execOp
    generalize a7.eval = ev at *
    go_simp
  obtain ⟨a8, qa8⟩ : ∃ z_, z_ = a7.put (some 6) (.int .i64 (s)) := ⟨_, rfl⟩
  have k8 : Ev.Stay [15, 16, 17, 18, 19, 20, 21, 6, 7] a a8 := by rw [qa8]; exact k7.put (by decide) _
  have e8_8 := Ev.oth qa8 (by decide) e7_8
  have e8_20 := Ev.oth qa8 (by decide) e7_20
  have e8_21 := Ev.oth qa8 (by decide) e7_21
  have e8_6 := Ev.sam qa8 (by rw [k7.1, hsz]; decide)
  rw [← qa8]
  clear qa8 e7_8 e7_20 e7_21
  refine Ev.pv (N := 7) (v := .int .i64 (0)) (W' := W.drewN nd) ?_ rfl rfl ?_
  · have ec0 : a8.eval (.const (.int .i64 (0))) = .int .i64 (0) := rfl
    unfold execOp
    generalize a8.eval = ev at *
    go_simp
  obtain ⟨a9, qa9⟩ : ∃ z_, z_ = a8.put (some 7) (.int .i64 (0)) := ⟨_, rfl⟩
  have k9 : Ev.Stay [15, 16, 17, 18, 19, 20, 21, 6, 7] a a9 := by rw [qa9]; exact k8.put (by decide) _
  have e9_8 := Ev.oth qa9 (by decide) e8_8
  have e9_20 := Ev.oth qa9 (by decide) e8_20
  have e9_21 := Ev.oth qa9 (by decide) e8_21
  have e9_6 := Ev.oth qa9 (by decide) e8_6
  have e9_7 := Ev.sam qa9 (by rw [k8.1, hsz]; decide)
  rw [← qa9]
  clear qa9 e8_8 e8_20 e8_21 e8_6
  exact hQ _ _ k9 e9_6 e9_7
theorem sum_steps {la lb : List Int} {i wd : Nat} (hw : wd ≤ 1000) : ∀ m c, c + m = wd → russ_sum.l0 (m + 1) (Tb la lb i c) ((List.range wd).map (Dr la lb i)) (wd : Int) (c : Int) = some (Tb la lb i wd)
  | 0, c, hc => by
    obtain rfl : c = wd := by omega
    simp only [russ_sum.l0]
    rw [if_neg (by omega)]
  | m + 1, c, hc => by
    have hl : ((List.range wd).map (Dr la lb i)).length = wd := by simp
    have hb := Tb_bd (a := la) (b := lb) i c
    have hd := Dr_bd (a := la) (b := lb) i c
    have e : Tb la lb i (c + 1) = Tb la lb i c + Dr la lb i c := by unfold Dr; omega
    have w1 : wrap64 (Dr la lb i c) = Dr la lb i c := wrap_id (by omega) (by omega)
    have w2 : wrap64 (Tb la lb i c + Dr la lb i c) = Tb la lb i (c + 1) := by rw [e, wrap_id (by omega) (by omega)]
    simp only [russ_sum.l0]
    rw [if_pos (by omega), if_pos (by omega), if_pos (by rw [hl]; omega), rd_range (by omega), w1, w2, wrap_succ (by omega)]
    exact sum_steps hw m (c + 1) (by omega)
theorem sum_calls {W : World} {g wd i : Nat} {la lb : List Int} (hg : W.heap[g]? = some (.cells (tabA wd (Dr la lb i)) 5 (0, 0))) (hw : wd ≤ 1000) :
    Calls Try.prog 18 #[.slice (some ⟨g, 0, none⟩) wd wd] W fun e w' => e = .returned (.int .i64 (Tb la lb i wd)) ∧ ∃ n, w' = W.drewN n := by
  have hl : ((List.range wd).map (Dr la lb i)).length = wd := by simp
  have hf : russ_sum.f (wd + 1) ((List.range wd).map (Dr la lb i)) = some (Tb la lb i wd) := by
    unfold russ_sum.f
    rw [hl]
    have := sum_steps (la := la) (lb := lb) (i := i) hw wd 0 (by omega)
    rw [Tb_i0] at this
    exact this
  have h := russ_sum.calls (wd + 1) (some ⟨g, 0, none⟩) wd ((List.range wd).map (Dr la lb i)) _ W (by rw [hl]; exact row_C hg hw) (by omega) hf
  rw [hl] at h
  refine h.mono ?_
  rintro e w' ⟨rfl, h⟩
  exact ⟨rfl, h.out⟩
theorem Rs.form {W : World} {B wd n : Nat} {al : Value} {gs : Nat → Nat} {D : Nat → Nat → Int} (h : Rs W B wd n al gs D) (hn : 0 < n) : ∃ ga cap, al = .slice (some ⟨ga, 0, none⟩) n cap ∧ B ≤ ga ∧ ∀ r, r < n → W.cell? ⟨ga, r, none⟩ = some (.slice (some ⟨gs r, 0, none⟩) wd wd) := by
  obtain ⟨ga, cap, rfl, _⟩ := World.ownsRow.form h.own hn
  refine ⟨ga, cap, rfl, own_base h.own ga rfl, fun r hr => ?_⟩
  have := World.ownsRow.cellAt h.own r (by omega)
  rw [this]
  unfold rowsL
  simp [hr]
noncomputable def Rl.R (k : Nat) : Code := .region k (Ru.ops 9 k) false
noncomputable def Rl.code : Code := .seq (Rl.R 0) (.seq (.seq (Rl.R 1) (.cond (.tmp 10) (.seq (Rl.R 2) .ret) .skip)) (.seq (Rl.R 3) (.seq (Rl.R 4) .ret)))
theorem Rl.res {a : Act} {W : World} {x y : Int} (h6 : a.eval (.tmp 6) = .int .i64 x) (h7 : a.eval (.tmp 7) = .int .i64 y) : (results Try.f9 a.tmps).run Try.prog W = .ok (.tuple #[.int .i64 x, .int .i64 y]) W := by
  have e6 : a.tmps[6]?.getD undef = .int .i64 x := by simpa [Act.eval] using h6
  have e7 : a.tmps[7]?.getD undef = .int .i64 y := by simpa [Act.eval] using h7
  simp [results, Try.results9, go_sem, e6, e7]
theorem len_none {A1 A2 : Option Addr} {n1 n2 c1 c2 : Nat} (w : World) : Calls Try.prog 9 #[.pointer none, .slice A1 n1 c1, .slice A2 n2 c2] w fun e w' => e = .returned (.tuple #[.int .i64 0, .int .i64 1]) ∧ w = w' := by
  go_enter Try.func9, Try.ntmps9
  go_wp2
  go_ret2
  exact ⟨rfl, rfl⟩
/-- russ.Len. -/
theorem len_calls {b t n0 : Nat} {A1 A2 : Option Addr} {c1 c2 : Nat} {la lb : List Int} (w : World) (hT : Tl w b t) (hla : la.length ≤ 100) (hlb : lb.length ≤ 100) (hc1 : la.length ≤ c1) (hc2 : lb.length ≤ c2) (hn0 : n0 ≤ b)
    (Ha : ∀ W', Kept w W' (fun k => k = b) → Kd.C (Kd.int .i64) W' A1 la.length la) (Hb : ∀ W', Kept w W' (fun k => k = b) → Kd.C (Kd.int .i64) W' A2 lb.length lb) :
    Calls Try.prog 9 #[.pointer (some ⟨b, 0, none⟩), .slice A1 la.length c1, .slice A2 lb.length c2] w fun e w' => e = .returned (.tuple #[.int .i64 (Tb la lb (upN la.length t * t) (upN lb.length t * t)), .int .i64 0]) ∧ Tl w' b t ∧ Kept w w' (fun k => k = b) ∧ Below n0 w w' := by
  have ht := hT.1
  have hup := upN_mul (n := lb.length) ht.1
  have hua := upN_mul (n := la.length) ht.1
  have hkk : upN la.length t ≤ upN la.length t * t := Nat.le_mul_of_pos_right _ (by omega)
  refine calls_of_wp Try.func9 rfl ?_
  show Rl.code.wp _ _ _ _
  generalize hR : (fun (e : Ending) (w' : World) => e = .returned (.tuple #[.int .i64 (Tb la lb (upN la.length t * t) (upN lb.length t * t)), .int .i64 0]) ∧ Tl w' b t ∧ Kept w w' (fun k => k = b) ∧ Below n0 w w') = R
  obtain ⟨a0, ha0⟩ : ∃ a0 : Act, a0 = { tmps := #[.pointer (some ⟨b, 0, none⟩), .slice A1 la.length c1, .slice A2 lb.length c2] ++ Array.replicate (Try.f9.ntmps - (#[.pointer (some ⟨b, 0, none⟩), .slice A1 la.length c1, .slice A2 lb.length c2] : Array Value).size) undef, defers := [] } := ⟨_, rfl⟩
  have hsz : a0.tmps.size = 22 := by rw [ha0]; simp [Try.ntmps9]
  have e0 : a0.eval (.tmp 0) = .pointer (some ⟨b, 0, none⟩) := by rw [ha0]; exact Ev.entry rfl
  have e1 : a0.eval (.tmp 1) = .slice A1 la.length c1 := by rw [ha0]; exact Ev.entry rfl
  have e2 : a0.eval (.tmp 2) = .slice A2 lb.length c2 := by rw [ha0]; exact Ev.entry rfl
  have hd0 : a0.defers = [] := by rw [ha0]
  rw [← ha0]
  clear ha0
  refine wp_seq (Rg.z0 hsz ?_)
  intro a1 k1
  refine wp_seq (wp_seq (Rg.z1 (b := b) (k1.1.trans hsz) ((k1.2.2 0 (by decide)).trans e0) ?_))
  intro a2 k2 e10
  refine wp_cond_false e10 (wp_skip ?_)
  show Code.wp _ _ _ _ _
  have st2 : Ev.Stay [6, 7, 9, 10] a0 a2 := k1.trans k2 (by decide) (by decide)
  refine wp_seq (Rg.z3 (b := b) (A1 := A1) (A2 := A2) (c1 := c1) (c2 := c2) (la := la) (lb := lb) (st2.1.trans hsz) ((st2.2.2 0 (by decide)).trans e0) ((st2.2.2 1 (by decide)).trans e1) ((st2.2.2 2 (by decide)).trans e2) (RR := fun v w' => ∃ gs, Rs w' w.heap.size (upN lb.length t * t) (upN la.length t + 1) v gs (fun r => Dr la lb (r * t)) ∧ Tl w' b t ∧ Kept w w' (fun k => k = b) ∧ Below n0 w w') ((steps_calls (n0 := n0) w hT hla hlb hc1 hc2 hn0 Ha Hb).mono ?_) ?_)
  · rintro e w' ⟨al, gs, rfl, h⟩
    exact ⟨al, rfl, gs, h⟩
  rintro a3 v W k3 e8 ⟨gs, hRs, hT', hK', hB'⟩
  show Code.wp _ _ _ _ _
  obtain ⟨ga, cap, rfl, _, hcell⟩ := hRs.form (by omega)
  have hrow := hRs.row (upN la.length t) (by omega)
  refine wp_seq (Rg.z4 (k3.1.trans (st2.1.trans hsz)) e8 (by omega) (hcell _ (by omega)) (sum_calls hrow (by omega)) ?_)
  intro a4 nd k4 f6 f7
  refine wp_ret ⟨k4.2.1.trans (k3.2.1.trans (st2.2.1.trans hd0)), _, Rl.res f6 f7, ?_⟩
  rw [← hR]
  exact ⟨rfl, hT'.below (pw_below_drewN (Below.refl _ _) nd), hK'.drewN nd, pw_below_drewN hB' nd⟩
end Go.Proofs.Ytpdjdffimighkaa.Tile
