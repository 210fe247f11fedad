-- Laid by wip/myprint.py: the kit's print, with contracts typed by hand for what it does not take.
import Derived.Test.YtkhplimibgjmoaaPHuntFewx0
import Derived.Maps.OwnRows
import Derived.Maps.GroupsBeside
import Derived.Maps.OwnSet
import Derived.Maps.Views
import Derived.Test.YtkhplimibgjmoaaHBack
import Derived.Maps.OwnIn
import Derived.RangeFuncNested
import Derived.OrdersIn
import Derived.LoopN
import Derived.Lib.SliceRun
namespace Go.Proofs.Ytkhplimibgjmoaa.PHuntFew
open Go.RowKit Go.Proofs.YtkhplimibgjmoaaW.PrintWords Go.Proofs.YtkhplimibgjmoaaW.PrintLast Go.Proofs.YtkhplimibgjmoaaW.PrintMore
attribute [local go_sem] max2_int min2_int max_two min_two max_three min_three max_four min_four   -- for this text's walks alone
set_option linter.unusedVariables false
set_option linter.unusedSimpArgs false

-- NOT PRINTED: function 18 (hunt_places)

/-! ### hunt_Hits: function 11 -/
/-- The places of a number in a list, from some place on. -/
def Plc.pos (s : Int) : List Int → Nat → List Int
  | [], _ => []
  | x :: xs, i => if x = s then (i : Int) :: Plc.pos s xs (i + 1) else Plc.pos s xs (i + 1)
theorem Plc.pos_snoc (s y : Int) : ∀ (l : List Int) (i : Nat), Plc.pos s (l ++ [y]) i = Plc.pos s l i ++ (if y = s then [((i + l.length : Nat) : Int)] else [])
  | [], i => by simp only [List.nil_append, Plc.pos]; split <;> simp
  | x :: xs, i => by
    rw [List.cons_append, Plc.pos, Plc.pos, Plc.pos_snoc s y xs (i + 1)]
    have e : i + 1 + xs.length = i + (x :: xs).length := by rw [List.length_cons]; omega
    rw [e]
    by_cases c : x = s
    · rw [if_pos c, if_pos c, List.cons_append]
    · rw [if_neg c, if_neg c]
theorem Plc.pos_len (s : Int) : ∀ (l : List Int) (i : Nat), (Plc.pos s l i).length ≤ l.length
  | [], _ => by simp [Plc.pos]
  | x :: xs, i => by rw [Plc.pos]; have := Plc.pos_len s xs (i + 1); split <;> simp <;> omega
/-- What a map of slices has at a number. -/
def Plc.At (D : DataW Unit) (x : Int) (ps : List Int) : Prop := (D.atKey (.int .i64 x) .nil = .nil ∧ ps = []) ∨ D.atKey (.int .i64 x) .nil = .slice (ChangeShapes.lits .i64 ps) []
theorem Plc.lits_inj {a b : List Int} (h : ChangeShapes.lits (H := Unit) .i64 a = ChangeShapes.lits .i64 b) : a = b := by
  unfold ChangeShapes.lits at h
  exact (List.map_inj_right (fun x y e => by injection e with e; injection e)).1 h
theorem Plc.At.same {w : World} {base : Nat} {D : DataW Unit} {x : Int} {v : Value} {zs ps : List Int} (h : Plc.At D x ps) (hat : D.atKey (.int .i64 x) .nil = rowDatum .i64 v zs) (ho : w.ownsInts base 3 .i64 v zs) : zs = ps := by
  rcases ho.datum (H := Unit) with ⟨h1, h2⟩ | h1 <;> rw [h1] at hat <;> rcases h with ⟨h3, h4⟩ | h3 <;> rw [h3] at hat
  · rw [h2, h4]
  · exact absurd hat (by simp)
  · exact absurd hat (by simp)
  · injection hat with hat; exact (Plc.lits_inj hat).symm
/-- Block b is the map of a list's places. -/
def Plc (W : World) (b n : Nat) (l : List Int) : Prop := ∃ D : DataW Unit, W.ownsGroups Try.prog 3 (b + 1) 3 .i64 b n D ∧ ∀ x, (Lit.int .i64 x).wf = true → Plc.At D x (Plc.pos x l 0)
theorem Plc.law : Maps.Keyed Try.prog 3 := Maps.int_keyed Try.underlying3
theorem Plc.key {x : Int} (h : (Lit.int .i64 x).wf = true) : keyOf Try.prog 3 (.int .i64 x) = some (.int .i64 x) := Maps.keyOf_int_mk Try.underlying3 h
theorem Plc.zero (w : World) : (zeroValue 25).run Try.prog w = .ok (.slice none 0 0) w := by kernel_rfl
theorem Plc.isMap {W : World} {b n : Nat} {D : DataW Unit} (h : W.ownsGroups Try.prog 3 (b + 1) 3 .i64 b n D) : Maps.IsMap D := by
  obtain ⟨es, clock, _, _, _, rfl, _⟩ := h
  exact ⟨_, rfl⟩
theorem Plc.step {W W1 W2 : World} {b n : Nat} {l : List Int} {D : DataW Unit} {x : Int} {v v' : Value} {zs : List Int} (hw : (Lit.int .i64 x).wf = true) (hD : Maps.IsMap D)
    (hs : ∀ y, (Lit.int .i64 y).wf = true → Plc.At D y (Plc.pos y l 0)) (hat : D.atKey (.int .i64 x) .nil = rowDatum .i64 v zs) (ho : W.ownsInts (b + 1) 3 .i64 v zs)
    (ho' : W1.ownsInts (b + 1) 3 .i64 v' (zs ++ [(l.length : Int)])) (h : W2.ownsGroups Try.prog 3 (b + 1) 3 .i64 b (n + 1) (D.put (.int .i64 x) (rowDatum .i64 v' (zs ++ [(l.length : Int)])))) : Plc W2 b (n + 1) (l ++ [x]) := by
  have e := (hs x hw).same hat ho
  subst e
  refine ⟨_, h, fun y hy => ?_⟩
  rw [Plc.pos_snoc]
  by_cases q : y = x
  · subst q
    rw [if_pos rfl, Nat.zero_add]
    refine Or.inr ?_
    rw [Maps.atKey_put_same hD (show WideAt.IsKeyLit (.int .i64 y) from trivial), ho'.datum_pos (by simp)]
  · rw [if_neg (fun e => q e.symm), List.append_nil]
    have e := Maps.atKey_put_other (D := D) (k := .int .i64 x) (k' := .int .i64 y) (by intro e; injection e with _ e; exact q e) (rowDatum .i64 v' (Plc.pos x l 0 ++ [(l.length : Int)])) .nil
    unfold Plc.At
    rw [e]
    exact hs y hy
theorem Plc.lt {W : World} {b n : Nat} {l : List Int} (h : Plc W b n l) : b < W.heap.size := by
  obtain ⟨D, ⟨es, clock, hb, _⟩, _⟩ := h
  exact (Array.getElem?_eq_some_iff.1 hb).1
theorem Plc.form {W : World} {base : Nat} {v : Value} {zs : List Int} (h : W.ownsInts base 3 .i64 v zs) : ∃ A c, v = .slice A zs.length c := by
  rcases h.1.2 with ⟨rfl, h0⟩ | ⟨g, cap, cur, rfl, _⟩
  · exact ⟨none, 0, by rw [h0]⟩
  · exact ⟨_, _, rfl⟩
theorem Plc.reads {W : World} {base : Nat} {v : Value} {zs : List Int} (h : W.ownsInts base 3 .i64 v zs) : ∃ A c, v = .slice A zs.length c ∧ Kd.C (Kd.int .i64) W A zs.length zs ∧ zs.length ≤ c := by
  have h1 := h.1
  obtain ⟨A, c, e, hr⟩ := own_reads (k := .i64) h1
  refine ⟨A, c, e, Kd.C_of_reads (d := (0 : Int)) (h1 := fun _ => rfl) hr, ?_⟩
  rcases h1.2 with ⟨e0, h0⟩ | ⟨g, cap, cur, e1, _, _, hn, _⟩
  · rw [h0]; exact Nat.zero_le _
  · rw [e] at e1; injection e1 with _ _ e2; rw [e2]; exact hn
theorem Plc.below {W W' : World} {b n : Nat} {l : List Int} (h : Plc W b n l) (hb : Below W.heap.size W W') : Plc W' b n l := by
  obtain ⟨D, h1, h2⟩ := h
  exact ⟨D, h1.kept (grown_of_below hb none) (by simp) (fun _ _ _ x _ => by cases x.val.ownBlock <;> simp), h2⟩
theorem Plc.all_at {l : List Int} (h : ∀ x ∈ l, (Lit.int .i64 x).wf = true) (k : Nat) (hk : k < l.length) : (Lit.int .i64 (rd l (k : Int))).wf = true := by
  have e : rd l (k : Int) = l[k] := by unfold rd; simp [hk]
  rw [e]; exact h _ (List.getElem_mem hk)
theorem Plc.drop_at (l : List Int) (k : Nat) (hk : k < l.length) : l.drop k = rd l (k : Int) :: l.drop (k + 1) := by
  have e : rd l (k : Int) = l[k] := by unfold rd; simp [hk]
  rw [e, List.drop_eq_getElem_cons hk]
theorem Plc.take_at (l : List Int) (k : Nat) (hk : k < l.length) : l.take (k + 1) = l.take k ++ [rd l (k : Int)] := by
  have e : rd l (k : Int) = l[k] := by unfold rd; simp [hk]
  rw [e, List.take_succ_eq_append_getElem hk]
set_option maxHeartbeats 8000000 in
set_option maxRecDepth 100000 in
/-- hunt.places: the call's own map of the list's places. -/
theorem places_calls (A0 : Option Addr) (c0 : Nat) (l0 : List Int) (w : World) (hr0 : Kd.C (Kd.int .i64) w A0 l0.length l0) (hc0 : l0.length ≤ c0) (hl : l0.length ≤ 1000000) (hw0 : ∀ x ∈ l0, (Lit.int .i64 x).wf = true) :
    Calls Try.prog 18 #[.slice A0 l0.length c0] w fun e w' => e = .returned (.map (some w.heap.size)) ∧ Plc w' w.heap.size l0.length l0 ∧ Below w.heap.size w w' := by
  have HR0 := Aside0.mk hr0
  clear hr0
  have hmm := @run_makeMap Try.prog
  obtain ⟨i0, hi, hz0, hz1, hz2⟩ := info_parts info3
  go_enter Try.func18, Try.ntmps18
  go_wp2
  go_loopw [9] (fun i wr => ∃ k : Nat, k ≤ l0.length ∧ i = .int .i64 k ∧ Aside0 (Plc wr w.heap.size k (l0.take k)) ∧ Below w.heap.size w wr ∧ w.heap.size + 1 ≤ wr.heap.size) (fun i _ => l0.length - (intOf i).toNat)
  case atStart => exact ⟨0, Nat.zero_le _, rfl, ⟨⟨.map [], World.ownsGroups_made _ _ _ _ _, fun x _ => Or.inl ⟨rfl, rfl⟩⟩⟩, (Below.refl _ _).alloc (Nat.le_refl _) _, by simp⟩
  case round =>
    obtain ⟨k, hk, rfl, HC, hnx, hws⟩ := hrel
    by_cases hlt : k < l0.length
    · obtain ⟨D, hown, hs⟩ := HC.out
      have hw := Plc.all_at hw0 k hlt
      obtain ⟨ad, ea, hx⟩ := Kd.at_int HR0.out (k : Int) (by omega) (by omega)
      cases ea
      replace hx := (hnx.cell (World.block_lt_of_cell? w _ hx)).trans hx
      rw [Int.toNat_natCast] at hx
      obtain ⟨x, ex⟩ : ∃ x, x = rd l0 (k : Int) := ⟨_, rfl⟩
      rw [← ex] at hx hw
      have EX := Aside0.mk ex
      have hkey := Plc.key hw
      have HS' := Aside0.mk hs
      clear ex hs HC
      have tok := True.intro
      go_wp2_with (first
        | (at_lookup; refine wpList_lookup_groups _ rfl _ _ 33 rfl 3 25 3 .i64 Plc.law Try.underlying33 (Plc.zero _) (w.heap.size + 1) w.heap.size k D rfl hown (by unfold maxLen; omega) _ _ rfl hkey ?_; intro v zs hat hoi hzl hback)
        | (at_builtin; refine wpList_append_own_at _ rfl _ _ 25 rfl (w.heap.size + 1) 3 i0 (.int .i64 0) 1 8 Try.underlying25 hi hz0 hz1 hz2 rfl (by decide) _ _ _ rfl (hoi.1.alloc _) ⟨wr.heap.size, 0, none⟩ 1 1 [.int .i64 k] rfl rfl (cell_one_new _ _ _) (ints_oneCell .i64 [(k : Int)]) (by unfold maxLen; omega) (by omega) (by simp; omega) ?_; intro v' w1 hown' hgrow hnil hloc)
        | (at_mapUpdate; refine wpList_mapUpdate_back _ rfl _ _ _ 33 rfl hback rfl rfl rfl ((World.grownBy_alloc _ _ _).trans hgrow) (hoi.appended hown' (WalkArith.wf_i64 (by omega))) (by simp; omega) (hloc.imp id (fun h => ⟨_, h, by simp⟩)) ?_; intro w2 hown2 hgrow2))
      have hall := (World.grownBy_alloc wr _ _).trans hgrow
      have et := Plc.take_at l0 k hlt
      rw [← EX.out] at et
      have ho' := hoi.appended hown' (WalkArith.wf_i64 (by omega))
      have hkl : ((l0.take k).length : Int) = (k : Int) := by rw [List.length_take]; omega
      have N1 := Plc.step (W := wr) (W1 := w1) (W2 := w2) (b := w.heap.size) (n := k) (l := l0.take k) (v := v) (v' := v') (zs := zs) hw (Plc.isMap hown) HS'.out hat hoi (by rw [hkl]; exact ho') (by rw [hkl]; exact hown2)
      rw [← et] at N1
      have M1 := Aside0.mk N1
      have M2 := hnx.groups hoi hall hgrow2 hnx.size (Nat.le_succ _) (Nat.le_refl _)
      have M3 := Nat.le_trans hws (Nat.le_trans hall.size hgrow2.size)
      clear N1 hown hown' ho' hown2 hgrow2 hall hgrow hback hoi hat hloc hnil hkey hx HS'
      go_roundw
      case rel => exact ⟨k + 1, by omega, by go_num, M1, M2, M3⟩
      case measure => simp [intOf]; omega
    · have ek : k = l0.length := by omega
      subst ek
      have HC' := HC.out
      rw [List.take_length] at HC'
      clear hlt hk HC
      go_wp2
      go_ret
      exact ⟨rfl, HC', hnx⟩
/-- How many places of two lists are alike. -/
def hunt_Hits.many (a b : List Int) : Int := a.foldl (fun s x => s + ((Plc.pos x b 0).length : Int)) 0
def hunt_Hits.ok (x : Int) : Bool := (Lit.int .i64 x).wf
def hunt_Hits.f (l0 : List Int) (l1 : List Int) : Option Int := if l0.length ≤ 1000000 ∧ l1.length ≤ 1000000 ∧ l0.all hunt_Hits.ok = true ∧ l1.all hunt_Hits.ok = true then some (hunt_Hits.many l0 l1) else none
theorem hunt_Hits.many_snoc (l b : List Int) (x : Int) : hunt_Hits.many (l ++ [x]) b = hunt_Hits.many l b + ((Plc.pos x b 0).length : Int) := by unfold hunt_Hits.many; rw [List.foldl_append]; rfl
theorem hunt_Hits.snoc_ind {P : List Int → Prop} (h0 : P []) (h1 : ∀ l x, P l → P (l ++ [x])) (l : List Int) : P l := by
  have q : ∀ m : List Int, P m.reverse := by
    intro m
    induction m with
    | nil => exact h0
    | cons x m ih => rw [List.reverse_cons]; exact h1 _ _ ih
  have := q l.reverse
  rwa [List.reverse_reverse] at this
theorem hunt_Hits.many_le (b l : List Int) : 0 ≤ hunt_Hits.many l b ∧ hunt_Hits.many l b ≤ (l.length : Int) * (b.length : Int) := by
  refine hunt_Hits.snoc_ind (P := fun l => 0 ≤ hunt_Hits.many l b ∧ hunt_Hits.many l b ≤ (l.length : Int) * (b.length : Int)) ⟨Int.le_refl _, by simp [hunt_Hits.many]⟩ (fun l x ih => ?_) l
  have h := Plc.pos_len x b 0
  rw [hunt_Hits.many_snoc, List.length_append, List.length_singleton]
  have e : ((l.length + 1 : Nat) : Int) * (b.length : Int) = (l.length : Int) * b.length + b.length := by rw [Int.natCast_add, Int.add_mul]; simp
  omega
theorem hunt_Hits.many_next (l b : List Int) (x s : Int) (n : Nat) (hl : l.length ≤ 1000000) (hb : b.length ≤ 1000000) (hs : s = hunt_Hits.many l b) (hn : n = (Plc.pos x b 0).length) : wrap64 (s + (n : Int)) = hunt_Hits.many (l ++ [x]) b := by
  have h := hunt_Hits.many_le b l
  have h2 := Plc.pos_len x b 0
  have hp : (l.length : Int) * (b.length : Int) ≤ 1000000 * 1000000 := by
    have := Nat.mul_le_mul hl hb
    have e : (l.length : Int) * (b.length : Int) = ((l.length * b.length : Nat) : Int) := by simp
    omega
  rw [hunt_Hits.many_snoc, hs, hn]
  unfold wrap64; omega
set_option maxHeartbeats 8000000 in
set_option maxRecDepth 100000 in
theorem hunt_Hits.calls (A0 : Option Addr) (c0 : Nat) (l0 : List Int) (A1 : Option Addr) (c1 : Nat) (l1 : List Int) (r : Int) (w : World) (hr0 : Kd.C (Kd.int .i64) w A0 l0.length l0) (hc0 : l0.length ≤ c0) (hr1 : Kd.C (Kd.int .i64) w A1 l1.length l1) (hc1 : l1.length ≤ c1) (h : hunt_Hits.f l0 l1 = some r) :
    Calls Try.prog 11 #[.slice A0 l0.length c0, .slice A1 l1.length c1] w fun e w' => e = .returned (.int .i64 r) ∧ Below w.heap.size w w' := by
  unfold hunt_Hits.f at h
  by_cases c : l0.length ≤ 1000000 ∧ l1.length ≤ 1000000 ∧ l0.all hunt_Hits.ok = true ∧ l1.all hunt_Hits.ok = true
  rotate_left
  · rw [if_neg c] at h
    exact absurd h (by simp)
  rw [if_pos c] at h
  obtain rfl := Option.some.inj h
  obtain ⟨q0, q1, q2, q3⟩ := c
  have W0 : Aside0 (∀ x ∈ l0, (Lit.int .i64 x).wf = true) := ⟨List.all_eq_true.mp q2⟩
  have W1 : Aside0 (∀ x ∈ l1, (Lit.int .i64 x).wf = true) := ⟨List.all_eq_true.mp q3⟩
  have HR0 := Aside0.mk hr0
  clear hr0 q2 q3 h
  go_enter Try.func11, Try.ntmps11
  go_wp2_with (first | (go_at_call 18; (with_reducible refine (places_calls A1 c1 l1 w hr1 hc1 q1 W1.out).mono ?_); rintro e w1 ⟨rfl, hp, hb⟩; have HP := Aside0.mk hp; have HB := Aside0.mk hb; clear hp hb))
  go_loopw [6, 13] (fun s i wr => ∃ k : Nat, k ≤ l0.length ∧ s = .int .i64 (hunt_Hits.many (l0.take k) l1) ∧ i = .int .i64 k ∧ Aside0 (Plc wr w.heap.size l1.length l1) ∧ Aside0 (Below w.heap.size w wr)) (fun s i _ => l0.length - (intOf i).toNat)
  case atStart => exact ⟨0, Nat.zero_le _, rfl, rfl, HP, HB⟩
  case round =>
    obtain ⟨k, hk, rfl, rfl, HC, HBw⟩ := hrel
    by_cases hlt : k < l0.length
    · obtain ⟨D, hown, hs⟩ := HC.out
      have hw := Plc.all_at W0.out k hlt
      obtain ⟨ad, ea, hx⟩ := Kd.at_int HR0.out (k : Int) (by omega) (by omega)
      cases ea
      replace hx := (HBw.out.cell (World.block_lt_of_cell? w _ hx)).trans hx
      rw [Int.toNat_natCast] at hx
      obtain ⟨x, ex⟩ : ∃ x, x = rd l0 (k : Int) := ⟨_, rfl⟩
      rw [← ex] at hx hw
      have EX := Aside0.mk ex
      have hkey := Plc.key hw
      have HS' := Aside0.mk hs
      obtain ⟨acc, ha⟩ : ∃ acc, acc = hunt_Hits.many (l0.take k) l1 := ⟨_, rfl⟩
      rw [← ha]
      have HA := Aside0.mk ha
      clear ex hs ha
      go_wp2_with (first
        | (at_lookup; refine wpList_lookup_groups _ rfl _ _ 33 rfl 3 25 3 .i64 Plc.law Try.underlying33 (Plc.zero _) (w.heap.size + 1) w.heap.size l1.length D rfl hown (by unfold maxLen; omega) _ _ rfl hkey ?_; intro v zs hat hoi hzl hback; have HV := Aside0.mk ((HS'.out x hw).same hat hoi); obtain ⟨Av, cv, rfl⟩ := Plc.form hoi))
      have et := Plc.take_at l0 k hlt
      rw [← EX.out] at et
      have ev := hunt_Hits.many_next (l0.take k) l1 x acc zs.length (by rw [List.length_take]; omega) q1 HA.out (by rw [HV.out])
      rw [← et] at ev
      clear hown hback hoi hat hkey hx HS' et
      go_roundw
      case rel => exact ⟨k + 1, by omega, by rw [← ev], by go_num, HC, HBw⟩
      case measure => simp [intOf]; omega
    · have ek : k = l0.length := by omega
      subst ek
      rw [List.take_length]
      clear hlt hk
      go_wp2
      go_ret
      exact ⟨rfl, HBw.out⟩

/-! ### cmp_isNaN_int: function 33 -/
def cmp_isNaN_int.f (a0 : Int) : Option (Bool) := some (a0 != a0)
set_option maxHeartbeats 8000000 in
set_option maxRecDepth 100000 in
theorem cmp_isNaN_int.calls (a0 : Int) (r : Bool) (w : World) (h : cmp_isNaN_int.f a0 = some r) :
    Calls Try.prog 33 #[.int .i64 a0] w fun e w' => e = .returned (.bool r) ∧ Drawn0 w w' := by
  have H : (some (a0 != a0)) = some r := h
  clear h
  obtain rfl := Option.some.inj H
  go_enter Try.func33, Try.ntmps33
  go_wp2
  go_ret
  exact ⟨by first | rfl | (simp; done) | (simp [*]; done), by repeat (first | exact Drawn0.refl _ | apply Drawn0.step)⟩

/-! ### cmp_Less_int: function 30 -/
def cmp_Less_int.f (a0 : Int) (a1 : Int) : Option (Bool) := (cmp_isNaN_int.f a0).bind fun t107 => (if t107 = true then ((cmp_isNaN_int.f a1).bind fun t108 => (if t108 = true then (some (decide (a0 < a1))) else (some true))) else (some (decide (a0 < a1))))
set_option maxHeartbeats 8000000 in
set_option maxRecDepth 100000 in
theorem cmp_Less_int.calls (a0 : Int) (a1 : Int) (r : Bool) (w : World) (h : cmp_Less_int.f a0 a1 = some r) :
    Calls Try.prog 30 #[.int .i64 a0, .int .i64 a1] w fun e w' => e = .returned (.bool r) ∧ Drawn0 w w' := by
  have H : ((cmp_isNaN_int.f a0).bind fun t107 => (if t107 = true then ((cmp_isNaN_int.f a1).bind fun t108 => (if t108 = true then (some (decide (a0 < a1))) else (some true))) else (some (decide (a0 < a1))))) = some r := h
  clear h
  replace H := Option.bind_eq_some_iff.mp H
  obtain ⟨t107, A30, H⟩ := H
  replace H : (if t107 = true then ((cmp_isNaN_int.f a1).bind fun t108 => (if t108 = true then (some (decide (a0 < a1))) else (some true))) else (some (decide (a0 < a1)))) = some r := H
  have A3 := Aside0.mk A30
  clear A30
  by_cases c4 : t107 = true
  · subst c4
    have H1 : ((cmp_isNaN_int.f a1).bind fun t108 => (if t108 = true then (some (decide (a0 < a1))) else (some true))) = some r := by rw [if_pos rfl] at H; exact H
    clear H
    have H := H1
    clear H1
    replace H := Option.bind_eq_some_iff.mp H
    obtain ⟨t108, A50, H⟩ := H
    replace H : (if t108 = true then (some (decide (a0 < a1))) else (some true)) = some r := H
    have A5 := Aside0.mk A50
    clear A50
    by_cases c6 : t108 = true
    · subst c6
      have H1 : (some (decide (a0 < a1))) = some r := by rw [if_pos rfl] at H; exact H
      clear H
      have H := H1
      clear H1
      obtain rfl := Option.some.inj H
      go_enter Try.func30, Try.ntmps30
      go_wp2_with (first | ((with_reducible refine gate_callee (f := 33) rfl ?_); refine goesL_ (some 6) rfl rfl Try.func33 (by kernel_rfl) rfl #[.int .i64 a0] rfl (by (try simp only [List.map_toArray, List.map_cons, List.map_nil]); first | done | rfl | (simp only [List.length_drop, List.length_take]; rfl)) ?_; (with_reducible refine (cmp_isNaN_int.calls a0 true _ A3.out).mono ?_); rintro e w' ⟨rfl, ⟨nd, rfl⟩⟩; refine ⟨_, rfl, ?_⟩) | (go_at_call 33; (with_reducible refine (cmp_isNaN_int.calls a1 true _ A5.out).mono ?_); rintro e w' ⟨rfl, ⟨nd, rfl⟩⟩))
      go_ret
      exact ⟨by first | rfl | (simp; done) | (simp [*]; done), by repeat (first | exact Drawn0.refl _ | apply Drawn0.step)⟩
    · replace c6 := Bool.eq_false_iff.mpr c6
      subst c6
      have H1 : (some true) = some r := by rw [if_neg (show ¬ (false = true) by decide)] at H; exact H
      clear H
      have H := H1
      clear H1
      obtain rfl := Option.some.inj H
      go_enter Try.func30, Try.ntmps30
      go_wp2_with (first | ((with_reducible refine gate_callee (f := 33) rfl ?_); refine goesL_ (some 6) rfl rfl Try.func33 (by kernel_rfl) rfl #[.int .i64 a0] rfl (by (try simp only [List.map_toArray, List.map_cons, List.map_nil]); first | done | rfl | (simp only [List.length_drop, List.length_take]; rfl)) ?_; (with_reducible refine (cmp_isNaN_int.calls a0 true _ A3.out).mono ?_); rintro e w' ⟨rfl, ⟨nd, rfl⟩⟩; refine ⟨_, rfl, ?_⟩) | (go_at_call 33; (with_reducible refine (cmp_isNaN_int.calls a1 false _ A5.out).mono ?_); rintro e w' ⟨rfl, ⟨nd, rfl⟩⟩))
      go_ret
      exact ⟨by first | rfl | (simp; done) | (simp [*]; done), by repeat (first | exact Drawn0.refl _ | apply Drawn0.step)⟩
  · replace c4 := Bool.eq_false_iff.mpr c4
    subst c4
    have H1 : (some (decide (a0 < a1))) = some r := by rw [if_neg (show ¬ (false = true) by decide)] at H; exact H
    clear H
    have H := H1
    clear H1
    obtain rfl := Option.some.inj H
    go_enter Try.func30, Try.ntmps30
    go_wp2_with (first | ((with_reducible refine gate_callee (f := 33) rfl ?_); refine goesL_ (some 6) rfl rfl Try.func33 (by kernel_rfl) rfl #[.int .i64 a0] rfl (by (try simp only [List.map_toArray, List.map_cons, List.map_nil]); first | done | rfl | (simp only [List.length_drop, List.length_take]; rfl)) ?_; (with_reducible refine (cmp_isNaN_int.calls a0 false _ A3.out).mono ?_); rintro e w' ⟨rfl, ⟨nd, rfl⟩⟩; refine ⟨_, rfl, ?_⟩))
    go_ret
    exact ⟨by first | rfl | (simp; done) | (simp [*]; done), by repeat (first | exact Drawn0.refl _ | apply Drawn0.step)⟩

/-! ### slices_isNaN_int: function 31 -/
def slices_isNaN_int.f (a0 : Int) : Option (Bool) := some (a0 != a0)
set_option maxHeartbeats 8000000 in
set_option maxRecDepth 100000 in
theorem slices_isNaN_int.calls (a0 : Int) (r : Bool) (w : World) (h : slices_isNaN_int.f a0 = some r) :
    Calls Try.prog 31 #[.int .i64 a0] w fun e w' => e = .returned (.bool r) ∧ Drawn0 w w' := by
  have H : (some (a0 != a0)) = some r := h
  clear h
  obtain rfl := Option.some.inj H
  go_enter Try.func31, Try.ntmps31
  go_wp2
  go_ret
  exact ⟨by first | rfl | (simp; done) | (simp [*]; done), by repeat (first | exact Drawn0.refl _ | apply Drawn0.step)⟩

/-! ### slices_BinarySearch_int_int: function 26 -/
def slices_BinarySearch_int_int.l0 : Nat → List Int → Int → Int → Int → Int → Option (Int × Bool)
  | 0, _, _, _, _, _ => none
  | k + 1, x0, x1, x6, x7, x8 => if x7 < x8 then (if 0 ≤ (wrap64 ((IntKind.u64.wrap (wrap64 (x7 + x8))) / 2)) then (if (wrap64 ((IntKind.u64.wrap (wrap64 (x7 + x8))) / 2)) < (x0.length : Int) then ((cmp_Less_int.f (rd x0 (wrap64 ((IntKind.u64.wrap (wrap64 (x7 + x8))) / 2))) x1).bind fun t110 => (if t110 = true then (slices_BinarySearch_int_int.l0 k x0 x1 x6 (wrap64 ((wrap64 ((IntKind.u64.wrap (wrap64 (x7 + x8))) / 2)) + 1)) x8) else (slices_BinarySearch_int_int.l0 k x0 x1 x6 x7 (wrap64 ((IntKind.u64.wrap (wrap64 (x7 + x8))) / 2))))) else (none)) else (none)) else (if x7 < x6 then (if 0 ≤ x7 then (if x7 < (x0.length : Int) then (if (rd x0 x7) = x1 then (some (x7, true)) else ((slices_isNaN_int.f (rd x0 x7)).bind fun t113 => (if t113 = true then ((slices_isNaN_int.f x1).bind fun t114 => (some (x7, t114))) else (some (x7, false))))) else (none)) else (none)) else (some (x7, false)))
def slices_BinarySearch_int_int.f (k : Nat) (l0 : List Int) (a1 : Int) : Option (Int × Bool) := slices_BinarySearch_int_int.l0 k l0 a1 (l0.length : Int) 0 (l0.length : Int)
theorem slices_BinarySearch_int_int.mono_l : ∀ k, (∀ y0 y1 y2 y3 y4, LeO (slices_BinarySearch_int_int.l0 k y0 y1 y2 y3 y4) (slices_BinarySearch_int_int.l0 (k + 1) y0 y1 y2 y3 y4))
  | 0 => fun _ _ _ _ _ r h => by simp [slices_BinarySearch_int_int.l0] at h
  | k + 1 => by
    have ih0 := slices_BinarySearch_int_int.mono_l k
    · intro y0 y1 y2 y3 y4
      unfold slices_BinarySearch_int_int.l0
      repeat' first
      | (with_reducible exact ih0 _ _ _ _ _)
      | (with_reducible exact LeO.refl _)
      | (with_reducible exact LeO.none _)
      | (with_reducible refine LeO.ite ?_ ?_)
      | (with_reducible refine LeO.bind ?_ (fun _ => ?_))
      | exact ih0 _ _ _ _ _
      | exact LeO.none _
      | refine LeO.ite ?_ ?_
      | refine LeO.bind ?_ (fun _ => ?_)
theorem slices_BinarySearch_int_int.mono : ∀ a0 a1 k, LeO (slices_BinarySearch_int_int.f k a0 a1) (slices_BinarySearch_int_int.f (k + 1) a0 a1) := by
  intro a0 a1 k
  have ih0 := slices_BinarySearch_int_int.mono_l k
  unfold slices_BinarySearch_int_int.f
  repeat' first
      | (with_reducible exact ih0 _ _ _ _ _)
      | (with_reducible exact LeO.refl _)
      | (with_reducible exact LeO.none _)
      | (with_reducible refine LeO.ite ?_ ?_)
      | (with_reducible refine LeO.bind ?_ (fun _ => ?_))
      | exact ih0 _ _ _ _ _
      | exact LeO.none _
      | refine LeO.ite ?_ ?_
      | refine LeO.bind ?_ (fun _ => ?_)
set_option maxHeartbeats 8000000 in
set_option maxRecDepth 100000 in
theorem slices_BinarySearch_int_int.calls (k : Nat) (A0 : Option Addr) (c0 : Nat) (l0 : List Int) (a1 : Int) (r1 : Int) (r2 : Bool) (w : World) (hr0 : Kd.C (Kd.int .i64) w A0 l0.length l0) (hc0 : l0.length ≤ c0) (h : slices_BinarySearch_int_int.f k l0 a1 = some (r1, r2)) :
    Calls Try.prog 26 #[.slice A0 l0.length c0, .int .i64 a1] w fun e w' => e = .returned (.tuple #[.int .i64 r1, .bool r2]) ∧ Drawn0 w w' := by
  have HR0 := Aside0.mk hr0
  have HC0 := Aside0.mk hc0
  clear hr0 hc0
  have H : (slices_BinarySearch_int_int.l0 k l0 a1 (l0.length : Int) 0 (l0.length : Int)) = some (r1, r2) := h
  clear h
  have H' := Aside0.mk H
  clear H
  go_enter Try.func26, Try.ntmps26
  go_wp2
  go_loopg [7, 8] k (fun kq v7 v8 w' => ∃ (x7_1 : Int) (x8_1 : Int), v7 = .int .i64 x7_1 ∧ v8 = .int .i64 x8_1 ∧ Aside0 (slices_BinarySearch_int_int.l0 kq l0 a1 (l0.length : Int) x7_1 x8_1 = some (r1, r2)) ∧ Aside0 (kq ≤ k) ∧ Drawn0 w w')
  case atStart => exact ⟨(0), ((l0.length : Int)), (by first | rfl | (simp; done) | (simp [*]; done)), (by first | rfl | (simp; done) | (simp [*]; done)), H', ⟨Nat.le_refl _⟩, by repeat (first | exact Drawn0.refl _ | apply Drawn0.step)⟩
  case round =>
    clear H'
    try clear c2
    try clear p2
    obtain ⟨x7_1, x8_1, rfl, rfl, HA, HK1, ⟨m1, rfl⟩⟩ := hrel
    cases gk with
    | zero => exact absurd HA.out (by simp [slices_BinarySearch_int_int.l0])
    | succ k1 =>
      have H := HA.out
      clear HA
      simp only [slices_BinarySearch_int_int.l0] at H
      by_cases c3 : x7_1 < x8_1
      · rw [if_pos c3] at H
        have c3b0 : decide (x7_1 < x8_1) = true := decide_eq_true c3
        clear c3
        obtain ⟨ji4, hji4⟩ : ∃ j_ : Int, (wrap64 ((IntKind.u64.wrap (wrap64 (x7_1 + x8_1))) / 2)) = j_ := ⟨_, rfl⟩
        replace H : (if 0 ≤ (ji4) then (if (ji4) < (l0.length : Int) then ((cmp_Less_int.f (rd l0 (ji4)) a1).bind fun t110 => (if t110 = true then (slices_BinarySearch_int_int.l0 k1 l0 a1 (l0.length : Int) (wrap64 ((ji4) + 1)) x8_1) else (slices_BinarySearch_int_int.l0 k1 l0 a1 (l0.length : Int) x7_1 ji4))) else (none)) else (none)) = some (r1, r2) := by first | (rw [hji4] at H; exact H) | (simp only [hji4] at H ⊢; exact H)
        have hji4w : (IntKind.i64.wrap ((IntKind.u64.wrap (wrap64 (x7_1 + x8_1))) / 2)) = ji4 := (i64_w _).trans hji4
        by_cases c5 : 0 ≤ (ji4)
        · rw [if_pos c5] at H
          have c5b0 : decide (0 ≤ (ji4)) = true := decide_eq_true c5
          clear c5
          by_cases c6 : (ji4) < (l0.length : Int)
          · rw [if_pos c6] at H
            have c6b0 : decide ((ji4) < (l0.length : Int)) = true := decide_eq_true c6
            clear c6
            replace H := Option.bind_eq_some_iff.mp H
            obtain ⟨t110, A70, H⟩ := H
            replace H : (if t110 = true then (slices_BinarySearch_int_int.l0 k1 l0 a1 (l0.length : Int) (wrap64 ((ji4) + 1)) x8_1) else (slices_BinarySearch_int_int.l0 k1 l0 a1 (l0.length : Int) x7_1 ji4)) = some (r1, r2) := H
            have A7 := Aside0.mk A70
            clear A70
            by_cases c8 : t110 = true
            · subst c8
              have H1 : (slices_BinarySearch_int_int.l0 k1 l0 a1 (l0.length : Int) (wrap64 ((ji4) + 1)) x8_1) = some (r1, r2) := by rw [if_pos rfl] at H; exact H
              clear H
              have H := H1
              clear H1
              have H' := Aside0.mk H
              clear H
              have p109 : 0 ≤ ((ji4) : Int) := of_decide_eq_true (by first | (with_reducible assumption) | assumption)
              have q109 : (ji4) < (l0.length : Int) := of_decide_eq_true (by first | (with_reducible assumption) | assumption)
              obtain ⟨ad109, e109, hx109_0⟩ := Kd.at_int HR0.out (ji4) p109 q109
              cases e109
              replace p109 := eq_true p109
              replace q109 := eq_true q109
              go_wp2_with (first | ((with_reducible refine gate_callee (f := 30) rfl ?_); refine goesL_ (some 27) rfl rfl Try.func30 (by kernel_rfl) rfl #[.int .i64 (rd l0 (ji4)), .int .i64 a1] rfl (by (try simp only [List.map_toArray, List.map_cons, List.map_nil]); first | done | (simp only [hji4]; rfl) | rfl | (simp only [List.length_drop, List.length_take]; rfl)) ?_; (with_reducible refine (cmp_Less_int.calls (rd l0 (ji4)) a1 true _ A7.out).mono ?_); rintro e w' ⟨rfl, ⟨nd, rfl⟩⟩; refine ⟨_, rfl, ?_⟩))
              go_roundg k1
              case measure => have := HK1.out; omega
              case rel => exact ⟨(wrap64 ((ji4) + 1)), (x8_1), (by first | rfl | (simp; done) | (simp only [← hji4] <;> (first | rfl | simp)) | (simp [*]; done)), (by first | rfl | (simp; done) | (simp [*]; done)), H', ⟨by have := HK1.out; omega⟩, by repeat (first | exact Drawn0.refl _ | apply Drawn0.step)⟩
            · replace c8 := Bool.eq_false_iff.mpr c8
              subst c8
              have H1 : (slices_BinarySearch_int_int.l0 k1 l0 a1 (l0.length : Int) x7_1 ji4) = some (r1, r2) := by rw [if_neg (show ¬ (false = true) by decide)] at H; exact H
              clear H
              have H := H1
              clear H1
              have H' := Aside0.mk H
              clear H
              have p109 : 0 ≤ ((ji4) : Int) := of_decide_eq_true (by first | (with_reducible assumption) | assumption)
              have q109 : (ji4) < (l0.length : Int) := of_decide_eq_true (by first | (with_reducible assumption) | assumption)
              obtain ⟨ad109, e109, hx109_0⟩ := Kd.at_int HR0.out (ji4) p109 q109
              cases e109
              replace p109 := eq_true p109
              replace q109 := eq_true q109
              go_wp2_with (first | ((with_reducible refine gate_callee (f := 30) rfl ?_); refine goesL_ (some 27) rfl rfl Try.func30 (by kernel_rfl) rfl #[.int .i64 (rd l0 (ji4)), .int .i64 a1] rfl (by (try simp only [List.map_toArray, List.map_cons, List.map_nil]); first | done | (simp only [hji4]; rfl) | rfl | (simp only [List.length_drop, List.length_take]; rfl)) ?_; (with_reducible refine (cmp_Less_int.calls (rd l0 (ji4)) a1 false _ A7.out).mono ?_); rintro e w' ⟨rfl, ⟨nd, rfl⟩⟩; refine ⟨_, rfl, ?_⟩))
              go_roundg k1
              case measure => have := HK1.out; omega
              case rel => exact ⟨(x7_1), (ji4), (by first | rfl | (simp; done) | (simp [*]; done)), (by first | rfl | (simp; done) | (simp only [← hji4] <;> (first | rfl | simp)) | (simp [*]; done)), H', ⟨by have := HK1.out; omega⟩, by repeat (first | exact Drawn0.refl _ | apply Drawn0.step)⟩
          · rw [if_neg c6] at H
            exact absurd H (by simp)
        · rw [if_neg c5] at H
          exact absurd H (by simp)
      · rw [if_neg c3] at H
        have c3b0 : decide (x7_1 < x8_1) = false := decide_eq_false c3
        clear c3
        by_cases c9 : x7_1 < (l0.length : Int)
        · rw [if_pos c9] at H
          have c9b0 : decide (x7_1 < (l0.length : Int)) = true := decide_eq_true c9
          clear c9
          by_cases c10 : 0 ≤ x7_1
          · rw [if_pos c10] at H
            have c10b0 : decide (0 ≤ x7_1) = true := decide_eq_true c10
            clear c10
            by_cases c11 : x7_1 < (l0.length : Int)
            · rw [if_pos c11] at H
              have c11b0 : decide (x7_1 < (l0.length : Int)) = true := decide_eq_true c11
              clear c11
              by_cases c12 : (rd l0 x7_1) = a1
              · rw [if_pos c12] at H
                have c12b0 : ((rd l0 x7_1) == a1) = true := beq_iff_eq.mpr c12
                have c12b1 : ((rd l0 x7_1) != a1) = false := bne_eq_false_iff_eq.mpr c12
                clear c12
                simp only [Option.some.injEq, Prod.mk.injEq] at H
                obtain ⟨rfl, rfl⟩ := H
                have p111 : 0 ≤ (x7_1 : Int) := of_decide_eq_true (by first | (with_reducible assumption) | assumption)
                have q111 : x7_1 < (l0.length : Int) := of_decide_eq_true (by first | (with_reducible assumption) | assumption)
                obtain ⟨ad111, e111, hx111_0⟩ := Kd.at_int HR0.out x7_1 p111 q111
                cases e111
                replace p111 := eq_true p111
                replace q111 := eq_true q111
                go_wp2
                go_ret2
                exact ⟨by first | rfl | (simp; done) | (simp [*]; done), by repeat (first | exact Drawn0.refl _ | apply Drawn0.step)⟩
              · rw [if_neg c12] at H
                have c12b0 : ((rd l0 x7_1) == a1) = false := beq_eq_false_iff_ne.mpr c12
                have c12b1 : ((rd l0 x7_1) != a1) = true := bne_iff_ne.mpr c12
                replace H := Option.bind_eq_some_iff.mp H
                obtain ⟨t113, A130, H⟩ := H
                replace H : (if t113 = true then ((slices_isNaN_int.f a1).bind fun t114 => (some (x7_1, t114))) else (some (x7_1, false))) = some (r1, r2) := H
                have A13 := Aside0.mk A130
                clear A130
                by_cases c14 : t113 = true
                · subst c14
                  have H1 : ((slices_isNaN_int.f a1).bind fun t114 => (some (x7_1, t114))) = some (r1, r2) := by rw [if_pos rfl] at H; exact H
                  clear H
                  have H := H1
                  clear H1
                  replace H := Option.bind_eq_some_iff.mp H
                  obtain ⟨t114, A150, H⟩ := H
                  replace H : (some (x7_1, t114)) = some (r1, r2) := H
                  have A15 := Aside0.mk A150
                  clear A150
                  simp only [Option.some.injEq, Prod.mk.injEq] at H
                  obtain ⟨rfl, rfl⟩ := H
                  have p111 : 0 ≤ (x7_1 : Int) := of_decide_eq_true (by first | (with_reducible assumption) | assumption)
                  have q111 : x7_1 < (l0.length : Int) := of_decide_eq_true (by first | (with_reducible assumption) | assumption)
                  obtain ⟨ad111, e111, hx111_0⟩ := Kd.at_int HR0.out x7_1 p111 q111
                  cases e111
                  replace p111 := eq_true p111
                  replace q111 := eq_true q111
                  have p112 : 0 ≤ (x7_1 : Int) := of_decide_eq_true (by first | (with_reducible assumption) | assumption)
                  have q112 : x7_1 < (l0.length : Int) := of_decide_eq_true (by first | (with_reducible assumption) | assumption)
                  obtain ⟨ad112, e112, hx112_0⟩ := Kd.at_int HR0.out x7_1 p112 q112
                  obtain rfl : ad111 = ad112 := (by injection e112)
                  replace p112 := eq_true p112
                  replace q112 := eq_true q112
                  go_wp2_with (first | (go_at_call 31; (with_reducible refine (slices_isNaN_int.calls (rd l0 x7_1) true _ A13.out).mono ?_); rintro e w' ⟨rfl, ⟨nd, rfl⟩⟩) | (go_at_call 31; (with_reducible refine (slices_isNaN_int.calls a1 t114 _ A15.out).mono ?_); rintro e w' ⟨rfl, ⟨nd, rfl⟩⟩))
                  go_ret2
                  exact ⟨by first | rfl | (simp; done) | (simp [*]; done), by repeat (first | exact Drawn0.refl _ | apply Drawn0.step)⟩
                · replace c14 := Bool.eq_false_iff.mpr c14
                  subst c14
                  have H1 : (some (x7_1, false)) = some (r1, r2) := by rw [if_neg (show ¬ (false = true) by decide)] at H; exact H
                  clear H
                  have H := H1
                  clear H1
                  simp only [Option.some.injEq, Prod.mk.injEq] at H
                  obtain ⟨rfl, rfl⟩ := H
                  have p111 : 0 ≤ (x7_1 : Int) := of_decide_eq_true (by first | (with_reducible assumption) | assumption)
                  have q111 : x7_1 < (l0.length : Int) := of_decide_eq_true (by first | (with_reducible assumption) | assumption)
                  obtain ⟨ad111, e111, hx111_0⟩ := Kd.at_int HR0.out x7_1 p111 q111
                  cases e111
                  replace p111 := eq_true p111
                  replace q111 := eq_true q111
                  have p112 : 0 ≤ (x7_1 : Int) := of_decide_eq_true (by first | (with_reducible assumption) | assumption)
                  have q112 : x7_1 < (l0.length : Int) := of_decide_eq_true (by first | (with_reducible assumption) | assumption)
                  obtain ⟨ad112, e112, hx112_0⟩ := Kd.at_int HR0.out x7_1 p112 q112
                  obtain rfl : ad111 = ad112 := (by injection e112)
                  replace p112 := eq_true p112
                  replace q112 := eq_true q112
                  go_wp2_with (first | (go_at_call 31; (with_reducible refine (slices_isNaN_int.calls (rd l0 x7_1) false _ A13.out).mono ?_); rintro e w' ⟨rfl, ⟨nd, rfl⟩⟩))
                  go_ret2
                  exact ⟨by first | rfl | (simp; done) | (simp [*]; done), by repeat (first | exact Drawn0.refl _ | apply Drawn0.step)⟩
            · rw [if_neg c11] at H
              exact absurd H (by simp)
          · rw [if_neg c10] at H
            exact absurd H (by simp)
        · rw [if_neg c9] at H
          have c9b0 : decide (x7_1 < (l0.length : Int)) = false := decide_eq_false c9
          clear c9
          simp only [Option.some.injEq, Prod.mk.injEq] at H
          obtain ⟨rfl, rfl⟩ := H
          go_wp2
          go_ret2
          exact ⟨by first | rfl | (simp; done) | (simp [*]; done), by repeat (first | exact Drawn0.refl _ | apply Drawn0.step)⟩

/-! ### thresh_Find: function 20 -/
def thresh_Find.f (k : Nat) (l0 : List Int) (a1 : Int) : Option (Int) := (slices_BinarySearch_int_int.f k l0 a1).bind fun bt115 => (some bt115.1)
theorem thresh_Find.mono : ∀ a0 a1 k, LeO (thresh_Find.f k a0 a1) (thresh_Find.f (k + 1) a0 a1) := by
  intro a0 a1 k
  unfold thresh_Find.f
  repeat' first
      | (with_reducible exact slices_BinarySearch_int_int.mono _ _ _)
      | (with_reducible exact LeO.refl _)
      | (with_reducible exact LeO.none _)
      | (with_reducible refine LeO.ite ?_ ?_)
      | (with_reducible refine LeO.bind ?_ (fun _ => ?_))
      | exact slices_BinarySearch_int_int.mono _ _ _
      | exact LeO.none _
      | refine LeO.ite ?_ ?_
      | refine LeO.bind ?_ (fun _ => ?_)
set_option maxHeartbeats 8000000 in
set_option maxRecDepth 100000 in
theorem thresh_Find.calls (k : Nat) (A0 : Option Addr) (c0 : Nat) (l0 : List Int) (a1 : Int) (r : Int) (w : World) (hr0 : Kd.C (Kd.int .i64) w A0 l0.length l0) (hc0 : l0.length ≤ c0) (h : thresh_Find.f k l0 a1 = some r) :
    Calls Try.prog 20 #[.slice A0 l0.length c0, .int .i64 a1] w fun e w' => e = .returned (.int .i64 r) ∧ Drawn0 w w' := by
  have HR0 := Aside0.mk hr0
  have HC0 := Aside0.mk hc0
  clear hr0 hc0
  have H : ((slices_BinarySearch_int_int.f k l0 a1).bind fun bt115 => (some bt115.1)) = some r := h
  clear h
  replace H := Option.bind_eq_some_iff.mp H
  obtain ⟨⟨t115, t116⟩, A30, H⟩ := H
  replace H : (some t115) = some r := H
  have A3 := Aside0.mk A30
  clear A30
  obtain rfl := Option.some.inj H
  go_enter Try.func20, Try.ntmps20
  go_wp2_with (first | ((with_reducible refine gate_callee (f := 26) rfl ?_); refine goesL_ (some 10) rfl rfl Try.func26 (by kernel_rfl) rfl #[.slice A0 l0.length c0, .int .i64 a1] rfl (by (try simp only [List.map_toArray, List.map_cons, List.map_nil]); first | done | rfl | (simp only [List.length_drop, List.length_take]; rfl)) ?_; (with_reducible refine (slices_BinarySearch_int_int.calls k _ _ l0 a1 t115 t116 _ ?side1 ?side2 A3.out).mono ?_); (case side1 => repeat (first | exact HR0.out | (with_reducible refine Kd.C_alloc ?_ _) | (with_reducible refine Kd.C_drewN ?_ _) | (with_reducible refine Kd.C_drew ?_))); (case side2 => exact HC0.out); rintro e w' ⟨rfl, ⟨nd, rfl⟩⟩; refine ⟨_, rfl, ?_⟩))
  go_ret
  exact ⟨by first | rfl | (simp; done) | (simp [*]; done), by repeat (first | exact Drawn0.refl _ | apply Drawn0.step)⟩

/-! ### api_Pair: function 21 -/
def api_Pair.l0 : Nat → List (S42) → Int → Int → Option ((List (S42)))
  | 0, _, _, _ => none
  | k + 1, x0, x2, x3 => if x2 < x3 then (if 0 ≤ x3 then (if x3 < (x0.length : Int) then (if 0 ≤ x2 then (if x2 < (x0.length : Int) then (api_Pair.l0 k ((x0.set (x2 : Int).toNat (⟨(rd_T42 x0 x3).f0, (rd_T42 x0 x3).f1⟩ : S42)).set (x3 : Int).toNat (⟨(rd_T42 x0 x2).f0, (rd_T42 x0 x2).f1⟩ : S42)) (wrap64 (x2 + 1)) (wrap64 (x3 - 1))) else (none)) else (none)) else (none)) else (none)) else (some x0)
def api_Pair.f (k : Nat) (l0 : List (S42)) : Option ((List (S42))) := api_Pair.l0 k l0 0 (wrap64 ((l0.length : Int) - 1))
theorem api_Pair.mono_l : ∀ k, (∀ y0 y1 y2, LeO (api_Pair.l0 k y0 y1 y2) (api_Pair.l0 (k + 1) y0 y1 y2))
  | 0 => fun _ _ _ r h => by simp [api_Pair.l0] at h
  | k + 1 => by
    have ih0 := api_Pair.mono_l k
    · intro y0 y1 y2
      unfold api_Pair.l0
      repeat' first
      | (with_reducible exact ih0 _ _ _)
      | (with_reducible exact LeO.refl _)
      | (with_reducible exact LeO.none _)
      | (with_reducible refine LeO.ite ?_ ?_)
      | (with_reducible refine LeO.bind ?_ (fun _ => ?_))
      | exact ih0 _ _ _
      | exact LeO.none _
      | refine LeO.ite ?_ ?_
      | refine LeO.bind ?_ (fun _ => ?_)
theorem api_Pair.mono : ∀ a0 k, LeO (api_Pair.f k a0) (api_Pair.f (k + 1) a0) := by
  intro a0 k
  have ih0 := api_Pair.mono_l k
  unfold api_Pair.f
  repeat' first
      | (with_reducible exact ih0 _ _ _)
      | (with_reducible exact LeO.refl _)
      | (with_reducible exact LeO.none _)
      | (with_reducible refine LeO.ite ?_ ?_)
      | (with_reducible refine LeO.bind ?_ (fun _ => ?_))
      | exact ih0 _ _ _
      | exact LeO.none _
      | refine LeO.ite ?_ ?_
      | refine LeO.bind ?_ (fun _ => ?_)
def api_Pair.T3 : Bool × List (List Nat × List Nat) := (true, [([], []), ([], []), ([], []), ([], []), ([], []), ([], []), ([4, 5], [4, 5]), ([6], [6]), ([], []), ([], []), ([8, 9], [8, 9]), ([10], [10]), ([0, 1, 0, 1, 4, 5, 6, 7, 11], [0, 1]), ([12, 7, 0, 1, 4, 5, 6, 7, 11], [7, 12]), ([2, 3, 0, 1, 2, 3, 4, 5, 6, 7, 8, 9, 10, 11, 12, 13], [2, 3]), ([14, 11, 13, 0, 1, 2, 3, 4, 5, 6, 7, 8, 9, 10, 11, 12, 13], [11, 14])])
def api_Pair.B3 : List Nat := [0, 0, 0, 0, 0, 0, 48, 112, 0, 0, 768, 1792, 4083, 8179, 16383, 32767]
theorem api_Pair.tab3 : rtab .any (opsOf Try.f21 3) = api_Pair.T3 := by kernel_rfl
theorem api_Pair.bits3 : waitsOk api_Pair.T3.2 api_Pair.B3 = true := by kernel_rfl
set_option maxHeartbeats 8000000 in
set_option maxRecDepth 100000 in
theorem api_Pair.calls (k : Nat) (P0_ : Nat → Prop) (u9000_ : Value) (l0 : List (S42)) (r : List (S42)) (w0 w : World) (hB : Below w0.heap.size w0 w) (ho0 : Kd.R k42 42 w w0.heap.size P0_ u9000_ l0) (h : api_Pair.f k l0 = some r) :
    Calls Try.prog 21 #[u9000_] w fun e w' => e = .returned (.tuple #[]) ∧ Kd.R k42 42 w' w0.heap.size (fun k_ => (P0_ k_ ∨ w.heap.size ≤ k_)) u9000_ r ∧ Below w0.heap.size w0 w' ∧ Kept w w' (fun k_ => P0_ k_) := by
  have hu42 := Try.underlying42
  have HO0 := Aside0.mk (show Kd.R k42 42 w w0.heap.size (fun k_ => (P0_ k_ ∨ w.heap.size ≤ k_)) u9000_ l0 from Kd.R_mono ho0 (fun k_ hk => (.inl hk)))
  have HK := Aside0.mk (Kept.refl w (fun k_ => P0_ k_))
  have HW0 := Aside0.mk hB.size
  have HB := Aside0.mk hB
  clear hB
  have H : (api_Pair.l0 k l0 0 (wrap64 ((l0.length : Int) - 1))) = some r := h
  clear h
  have H' := Aside0.mk H
  clear H
  obtain ⟨Ao2, co2, eo2⟩ := Kd.R_slice HO0.out
  subst eo2
  go_enter Try.func21, Try.ntmps21
  go_wp2
  go_loopg [2, 3] k (fun kq v2 v3 w' => ∃ (x0_1 : List (S42)) (x2_1 : Int) (x3_1 : Int), v2 = .int .i64 x2_1 ∧ v3 = .int .i64 x3_1 ∧ Aside0 (api_Pair.l0 kq x0_1 x2_1 x3_1 = some r) ∧ Aside0 (kq ≤ k) ∧ Aside0 (Kd.R k42 42 w' w0.heap.size (fun k_ => (P0_ k_ ∨ w.heap.size ≤ k_)) (.slice Ao2 l0.length co2) x0_1) ∧ Aside0 (Kept w w' (fun k_ => P0_ k_)) ∧ Aside0 (Below w0.heap.size w0 w'))
  case atStart => exact ⟨(l0), (0), (wrap64 ((l0.length : Int) - 1)), (by first | rfl | (simp; done) | (simp [*]; done)), (by first | rfl | (simp; done) | (simp [*]; done)), H', ⟨Nat.le_refl _⟩, ⟨by (with_reducible repeat (first | apply Kd.R_alloc | apply Kd.R_drewN | apply Kd.R_drew)); exact HO0.out⟩, ⟨by repeat (first | (with_reducible first | exact HK.out | apply Kept.alloc | apply Kept.drewN | apply Kept.drew) | exact HK.out)⟩, ⟨by repeat (first | (with_reducible first | exact HB.out | apply below_alloc | apply pw_below_drewN | apply below_drew1) | exact HB.out)⟩⟩
  case round =>
    clear H'
    try clear c2
    try clear p2
    obtain ⟨x0_1, x2_1, x3_1, rfl, rfl, HA, HK1, HO_0, HK, HB⟩ := hrel
    have hl0_1 := (Kd.R_reads' HO_0.out).1
    rw [hl0_1] at HO_0
    (try simp only [hl0_1])
    cases gk with
    | zero => exact absurd HA.out (by simp [api_Pair.l0])
    | succ k1 =>
      have H := HA.out
      clear HA
      simp only [api_Pair.l0] at H
      by_cases c3 : x2_1 < x3_1
      · rw [if_pos c3] at H
        have c3b0 : decide (x2_1 < x3_1) = true := decide_eq_true c3
        clear c3
        by_cases c4 : 0 ≤ x3_1
        · rw [if_pos c4] at H
          have c4b0 : decide (0 ≤ x3_1) = true := decide_eq_true c4
          clear c4
          by_cases c5 : x3_1 < (x0_1.length : Int)
          · rw [if_pos c5] at H
            have c5b0 : decide (x3_1 < (x0_1.length : Int)) = true := decide_eq_true c5
            clear c5
            by_cases c6 : 0 ≤ x2_1
            · rw [if_pos c6] at H
              have c6b0 : decide (0 ≤ x2_1) = true := decide_eq_true c6
              clear c6
              by_cases c7 : x2_1 < (x0_1.length : Int)
              · rw [if_pos c7] at H
                have c7b0 : decide (x2_1 < (x0_1.length : Int)) = true := decide_eq_true c7
                clear c7
                obtain ⟨y119, hy119⟩ : ∃ y_ : List (S42), y_ = (x0_1.set (x2_1 : Int).toNat (⟨(rd_T42 x0_1 x3_1).f0, (rd_T42 x0_1 x3_1).f1⟩ : S42)) := ⟨_, rfl⟩
                replace H : (api_Pair.l0 k1 (y119.set (x3_1 : Int).toNat (⟨(rd_T42 x0_1 x2_1).f0, (rd_T42 x0_1 x2_1).f1⟩ : S42)) (wrap64 (x2_1 + 1)) (wrap64 (x3_1 - 1))) = some r := by first | (rw [hy119]; with_reducible exact H) | (have H2_ := (Option.bind_some _ _).symm.trans H; rw [hy119]; with_reducible exact H2_) | (have H2_ := (Option.bind_some _ _).symm.trans H; with_reducible exact H2_) | with_reducible exact H | (rw [hy119]; exact H) | exact H
                have Ny119 := Aside0.mk hy119
                clear hy119
                obtain ⟨y120, hy120⟩ : ∃ y_ : List (S42), y_ = (y119.set (x3_1 : Int).toNat (⟨(rd_T42 x0_1 x2_1).f0, (rd_T42 x0_1 x2_1).f1⟩ : S42)) := ⟨_, rfl⟩
                replace H : (api_Pair.l0 k1 y120 (wrap64 (x2_1 + 1)) (wrap64 (x3_1 - 1))) = some r := by first | (rw [hy120]; with_reducible exact H) | (have H2_ := (Option.bind_some _ _).symm.trans H; rw [hy120]; with_reducible exact H2_) | (have H2_ := (Option.bind_some _ _).symm.trans H; with_reducible exact H2_) | with_reducible exact H | (rw [hy120]; exact H) | exact H
                have Ny120 := Aside0.mk hy120
                clear hy120
                have H' := Aside0.mk H
                clear H
                try go_wp2
                have n0_ := Aside0.mk (Kd.R_drew HO_0.out)
                have n1_ := Aside0.mk (Kept.drew HK.out)
                have n2_ := Aside0.mk (below_drew1 HB.out)
                clear HO_0
                clear HK
                clear HB
                have HO_0 := n0_
                have HK := n1_
                have HB := n2_
                clear n0_ n1_ n2_
                have p117 : 0 ≤ (x3_1 : Int) := of_decide_eq_true (by first | (with_reducible assumption) | assumption)
                have q117 : x3_1 < (x0_1.length : Int) := of_decide_eq_true (by first | (with_reducible assumption) | assumption)
                obtain ⟨ad117, e117, hx117_0, hx117_1⟩ := at_T42 (Kd.R_reads' HO_0.out).2.2 x3_1 p117 q117
                cases e117
                replace p117 := eq_true p117
                replace q117 := eq_true q117
                have p118 : 0 ≤ (x2_1 : Int) := of_decide_eq_true (by first | (with_reducible assumption) | assumption)
                have q118 : x2_1 < (x0_1.length : Int) := of_decide_eq_true (by first | (with_reducible assumption) | assumption)
                obtain ⟨ad118, e118, hx118_0, hx118_1⟩ := at_T42 (Kd.R_reads' HO_0.out).2.2 x2_1 p118 q118
                obtain rfl : ad117 = ad118 := (by injection e118)
                replace p118 := eq_true p118
                replace q118 := eq_true q118
                have p8 : 0 ≤ (x2_1 : Int) := of_decide_eq_true (by first | (with_reducible assumption) | assumption)
                have q8 : (x2_1 : Int) < ((x0_1.length : Int) : Int) := of_decide_eq_true (by first | (with_reducible assumption) | assumption)
                obtain ⟨go8, co8, eo8, gb8, gl8, cl8, HG8⟩ := Kd.R_form HO_0.out (by omega)
                (first | cases eo8 | (injection eo8 with ea_ en_ ec_; (first | subst ea_ | (injection ea_ with ea_; subst ea_)); subst ec_; clear en_))
                have GB8 := Aside0.mk gb8
                have GG8 := Aside0.mk HG8
                clear gb8 gl8 HG8
                have HMgo8 := Aside0.mk (show (P0_ go8 ∨ w.heap.size ≤ go8) from (HO_0.out.1 _ rfl))
                (first | simp only [add_plain] at hx117_0 | skip)
                (first | simp only [add_plain] at hx117_1 | skip)
                (first | simp only [add_plain] at hx118_0 | skip)
                (first | simp only [add_plain] at hx118_1 | skip)
                obtain ⟨ce8, hcl8, hM8, hcc8, hfr8⟩ := Kd.R_elem HO_0.out z42 (x2_1 : Int) p8 q8
                obtain rfl := k42_openM hM8
                have hx8_0 : World.cell? _ ⟨go8, (x2_1 : Int).toNat * 2, none⟩ = some (.int .i64 ((rd_T42 x0_1 x2_1).f0)) := hcc8 0 _ rfl
                have hx8_1 : World.cell? _ ⟨go8, (x2_1 : Int).toNat * 2 + 1, none⟩ = some (.int .i64 ((rd_T42 x0_1 x2_1).f1)) := hcc8 1 _ rfl
                have hf8_0 : World.frozen? _ ⟨go8, (x2_1 : Int).toNat * 2, none⟩ = false := hfr8 0
                have hf8_1 : World.frozen? _ ⟨go8, (x2_1 : Int).toNat * 2 + 1, none⟩ = false := hfr8 1
                clear hcl8 hcc8 hfr8 hM8
                replace p8 := eq_true p8
                replace q8 := eq_true q8
                obtain ⟨ce11, hcl11, hM11, hcc11, hfr11⟩ := Kd.R_elem HO_0.out z42 (x2_1 : Int) (of_decide_eq_true (by first | (with_reducible assumption) | assumption)) (by have h_ : (x2_1 : Int) < ((x0_1.length : Int) : Int) := of_decide_eq_true (by first | (with_reducible assumption) | assumption); first | exact h_ | (have e_ := (Kd.R_reads' HO_0.out).1; omega) | simpa using h_)
                obtain rfl := k42_openM hM11
                have HP11 := (Kd.R_seg HO_0.out (x2_1 : Int) (of_decide_eq_true (by first | (with_reducible assumption) | assumption)) (by have h_ : (x2_1 : Int) < ((x0_1.length : Int) : Int) := of_decide_eq_true (by first | (with_reducible assumption) | assumption); first | exact h_ | (have e_ := (Kd.R_reads' HO_0.out).1; omega) | simpa using h_) (seg := [.int .i64 ((rd_T42 x0_1 x3_1).f0), .int .i64 ((rd_T42 x0_1 x3_1).f1)]) (j := 0) hcl11 hcc11 (show 2 ≤ 2 from by decide) (x' := (⟨(rd_T42 x0_1 x3_1).f0, (rd_T42 x0_1 x3_1).f1⟩ : S42)) (k42_mkM _ _ _ (⟨(rd_T42 x0_1 x3_1).f0, (rd_T42 x0_1 x3_1).f1⟩ : S42) ) (fun _ hk => hk)).1
                rw [← Ny119.out] at HP11
                have HQ11 := Aside0.mk HP11
                clear hcl11 hcc11 hfr11 hM11 HP11
                have p9 : 0 ≤ (x3_1 : Int) := of_decide_eq_true (by first | (with_reducible assumption) | assumption)
                have q9 : (x3_1 : Int) < ((x0_1.length : Int) : Int) := of_decide_eq_true (by first | (with_reducible assumption) | assumption)
                obtain ⟨ce9, hcl9, hM9, hcc9, hfr9⟩ := Kd.R_elem HQ11.out z42 (x3_1 : Int) p9 q9
                obtain rfl := k42_openM hM9
                have hx9_0 : World.cell? _ ⟨go8, (x3_1 : Int).toNat * 2, none⟩ = some (.int .i64 ((rd_T42 y119 x3_1).f0)) := hcc9 0 _ rfl
                have hx9_1 : World.cell? _ ⟨go8, (x3_1 : Int).toNat * 2 + 1, none⟩ = some (.int .i64 ((rd_T42 y119 x3_1).f1)) := hcc9 1 _ rfl
                have hf9_0 : World.frozen? _ ⟨go8, (x3_1 : Int).toNat * 2, none⟩ = false := hfr9 0
                have hf9_1 : World.frozen? _ ⟨go8, (x3_1 : Int).toNat * 2 + 1, none⟩ = false := hfr9 1
                clear hcl9 hcc9 hfr9 hM9
                replace p9 := eq_true p9
                replace q9 := eq_true q9
                obtain ⟨ce12, hcl12, hM12, hcc12, hfr12⟩ := Kd.R_elem HQ11.out z42 (x3_1 : Int) (of_decide_eq_true (by first | (with_reducible assumption) | assumption)) (by have h_ : (x3_1 : Int) < ((x0_1.length : Int) : Int) := of_decide_eq_true (by first | (with_reducible assumption) | assumption); first | exact h_ | (have e_ := (Kd.R_reads' HO_0.out).1; omega) | simpa using h_)
                obtain rfl := k42_openM hM12
                have HP12 := (Kd.R_seg HQ11.out (x3_1 : Int) (of_decide_eq_true (by first | (with_reducible assumption) | assumption)) (by have h_ : (x3_1 : Int) < ((x0_1.length : Int) : Int) := of_decide_eq_true (by first | (with_reducible assumption) | assumption); first | exact h_ | (have e_ := (Kd.R_reads' HO_0.out).1; omega) | simpa using h_) (seg := [.int .i64 ((rd_T42 x0_1 x2_1).f0), .int .i64 ((rd_T42 x0_1 x2_1).f1)]) (j := 0) hcl12 hcc12 (show 2 ≤ 2 from by decide) (x' := (⟨(rd_T42 x0_1 x2_1).f0, (rd_T42 x0_1 x2_1).f1⟩ : S42)) (k42_mkM _ _ _ (⟨(rd_T42 x0_1 x2_1).f0, (rd_T42 x0_1 x2_1).f1⟩ : S42) ) (fun _ hk => hk)).1
                rw [← Ny120.out] at HP12
                have HQ12 := Aside0.mk HP12
                clear hcl12 hcc12 hfr12 hM12 HP12
                have lt_ : x2_1 < x3_1 := of_decide_eq_true (by first | (with_reducible assumption) | assumption)
                have pa_ : 0 ≤ (x2_1 : Int) := of_decide_eq_true (by first | (with_reducible assumption) | assumption)
                have pb_ : 0 ≤ (x3_1 : Int) := of_decide_eq_true (by first | (with_reducible assumption) | assumption)
                have qb_ : x3_1 < (x0_1.length : Int) := of_decide_eq_true (by first | (with_reducible assumption) | assumption)
                obtain ⟨ce99, hcl99, hM99, hcc99, hfr99⟩ := Kd.R_elem HO_0.out z42 (x3_1 : Int) pb_ qb_
                have hf99_0 : World.frozen? _ ⟨go8, (x3_1 : Int).toNat * 2, none⟩ = false := hfr99 0
                have hf99_1 : World.frozen? _ ⟨go8, (x3_1 : Int).toNat * 2 + 1, none⟩ = false := hfr99 1
                clear hcl99 hcc99 hfr99 hM99 ce99
                have dn0_ : (x2_1.toNat * 2 = x3_1.toNat * 2) = False := by apply eq_false; omega
                have dm0_ : (x3_1.toNat * 2 = x2_1.toNat * 2) = False := by apply eq_false; omega
                have dn1_ : (x2_1.toNat * 2 + 1 = x3_1.toNat * 2 + 1) = False := by apply eq_false; omega
                have dm1_ : (x3_1.toNat * 2 + 1 = x2_1.toNat * 2 + 1) = False := by apply eq_false; omega
                have dn2_ : (x2_1.toNat * 2 = x3_1.toNat * 2 + 1) = False := by apply eq_false; omega
                have dm2_ : (x3_1.toNat * 2 + 1 = x2_1.toNat * 2) = False := by apply eq_false; omega
                have dn3_ : (x2_1.toNat * 2 + 1 = x3_1.toNat * 2) = False := by apply eq_false; omega
                have dm3_ : (x3_1.toNat * 2 = x2_1.toNat * 2 + 1) = False := by apply eq_false; omega
                clear lt_ pa_ pb_ qb_
                refine start_ (n := 16) (S := fun w' => w'.cell? ⟨go8, ((x3_1).toNat * 2), none⟩ = some (.int .i64 ((rd_T42 x0_1 x3_1).f0)) ∧ w'.cell? ⟨go8, ((x3_1).toNat * 2) + 1, none⟩ = some (.int .i64 ((rd_T42 x0_1 x3_1).f1)) ∧ w'.cell? ⟨go8, ((x2_1).toNat * 2), none⟩ = some (.int .i64 ((rd_T42 x0_1 x2_1).f0)) ∧ w'.cell? ⟨go8, ((x2_1).toNat * 2) + 1, none⟩ = some (.int .i64 ((rd_T42 x0_1 x2_1).f1))) (ds := [13, 15]) #[false, false, false, false, false, false, false, false, false, false, false, false, false, false, false, false] (by kernel_rfl) rfl rfl ⟨hx117_0, hx117_1, hx118_0, hx118_1⟩ (fun hHeld => ?_); refine with_tabW api_Pair.tab3 api_Pair.bits3 (fun HT_ HW_ => ?_)
                generalize wr.drew = w10 at HO_0 HK HB GG8 HQ11 HQ12 hf8_0 hf8_1 hf9_0 hf9_1 hx117_0 hx117_1 hx118_0 hx118_1 hx8_0 hx8_1 hx9_0 hx9_1 hHeld hf99_0 hf99_1 ⊢
                refine pure_ (i := 0) (N := some 14) (v := ?_) (a' := ?_) #[true, false, false, false, false, false, false, false, false, false, false, false, false, false, false, false] rfl rfl (any_of HT_.out (by kernel_rfl)) (fun _ _ _ h => h) (Or.inl ⟨by rfl, ?_⟩) ?_ ?_
                rotate_left
                · intro w'
                  go_simp
                  with_reducible rfl
                rotate_left
                · simp only [Act.put, List.setIfInBounds_toArray, List.set_cons_zero, List.set_cons_succ, i64_w, i32_w]
                  rfl
                refine pure_ (i := 1) (N := some 15) (v := ?_) (a' := ?_) #[true, true, false, false, false, false, false, false, false, false, false, false, false, false, false, false] rfl rfl (any_of HT_.out (by kernel_rfl)) (fun _ _ _ h => h) (Or.inl ⟨by rfl, ?_⟩) ?_ ?_
                rotate_left
                · intro w'
                  go_simp
                  with_reducible rfl
                rotate_left
                · simp only [Act.put, List.setIfInBounds_toArray, List.set_cons_zero, List.set_cons_succ, i64_w, i32_w]
                  rfl
                refine pure_ (i := 2) (N := some 16) (v := ?_) (a' := ?_) #[true, true, true, false, false, false, false, false, false, false, false, false, false, false, false, false] rfl rfl (any_of HT_.out (by kernel_rfl)) (fun _ _ _ h => h) (Or.inl ⟨by rfl, ?_⟩) ?_ ?_
                rotate_left
                · intro w'
                  go_simp
                  with_reducible rfl
                rotate_left
                · simp only [Act.put, List.setIfInBounds_toArray, List.set_cons_zero, List.set_cons_succ, i64_w, i32_w]
                  rfl
                refine pure_ (i := 3) (N := some 17) (v := ?_) (a' := ?_) #[true, true, true, true, false, false, false, false, false, false, false, false, false, false, false, false] rfl rfl (any_of HT_.out (by kernel_rfl)) (fun _ _ _ h => h) (Or.inl ⟨by rfl, ?_⟩) ?_ ?_
                rotate_left
                · intro w'
                  go_simp
                  with_reducible rfl
                rotate_left
                · simp only [Act.put, List.setIfInBounds_toArray, List.set_cons_zero, List.set_cons_succ, i64_w, i32_w]
                  rfl
                refine pure_ (i := 4) (N := some 18) (v := ?_) (a' := ?_) #[true, true, true, true, true, false, false, false, false, false, false, false, false, false, false, false] rfl rfl (any_of HT_.out (by kernel_rfl)) (fun _ _ _ h => h) (Or.inl ⟨by rfl, ?_⟩) ?_ ?_
                rotate_left
                · intro w'
                  go_simp
                  with_reducible rfl
                rotate_left
                · simp only [Act.put, List.setIfInBounds_toArray, List.set_cons_zero, List.set_cons_succ, i64_w, i32_w]
                  rfl
                refine pure_ (i := 5) (N := some 19) (v := ?_) (a' := ?_) #[true, true, true, true, true, true, false, false, false, false, false, false, false, false, false, false] rfl rfl (any_of HT_.out (by kernel_rfl)) (fun _ _ _ h => h) (Or.inl ⟨by rfl, ?_⟩) ?_ ?_
                rotate_left
                · intro w'
                  go_simp
                  with_reducible rfl
                rotate_left
                · simp only [Act.put, List.setIfInBounds_toArray, List.set_cons_zero, List.set_cons_succ, i64_w, i32_w]
                  rfl
                refine pure_ (i := 6) (N := some 20) (v := ?_) (a' := ?_) #[true, true, true, true, true, true, true, false, false, false, false, false, false, false, false, false] rfl rfl (any_of HT_.out (by kernel_rfl)) (fun _ _ _ h => h) (Or.inl ⟨by rfl, ?_⟩) ?_ ?_
                rotate_left
                · intro w'
                  go_simp
                  with_reducible rfl
                rotate_left
                · simp only [Act.put, List.setIfInBounds_toArray, List.set_cons_zero, List.set_cons_succ, i64_w, i32_w]
                  rfl
                refine pure_ (i := 8) (N := some 22) (v := ?_) (a' := ?_) #[true, true, true, true, true, true, true, false, true, false, false, false, false, false, false, false] rfl rfl (any_of HT_.out (by kernel_rfl)) (fun _ _ _ h => h) (Or.inl ⟨by rfl, ?_⟩) ?_ ?_
                rotate_left
                · intro w'
                  go_simp
                  with_reducible rfl
                rotate_left
                · simp only [Act.put, List.setIfInBounds_toArray, List.set_cons_zero, List.set_cons_succ, i64_w, i32_w]
                  rfl
                refine pure_ (i := 9) (N := some 23) (v := ?_) (a' := ?_) #[true, true, true, true, true, true, true, false, true, true, false, false, false, false, false, false] rfl rfl (any_of HT_.out (by kernel_rfl)) (fun _ _ _ h => h) (Or.inl ⟨by rfl, ?_⟩) ?_ ?_
                rotate_left
                · intro w'
                  go_simp
                  with_reducible rfl
                rotate_left
                · simp only [Act.put, List.setIfInBounds_toArray, List.set_cons_zero, List.set_cons_succ, i64_w, i32_w]
                  rfl
                refine pure_ (i := 10) (N := some 24) (v := ?_) (a' := ?_) #[true, true, true, true, true, true, true, false, true, true, true, false, false, false, false, false] rfl rfl (any_of HT_.out (by kernel_rfl)) (fun _ _ _ h => h) (Or.inl ⟨by rfl, ?_⟩) ?_ ?_
                rotate_left
                · intro w'
                  go_simp
                  with_reducible rfl
                rotate_left
                · simp only [Act.put, List.setIfInBounds_toArray, List.set_cons_zero, List.set_cons_succ, i64_w, i32_w]
                  rfl
                refine take_ (i := 7) (N := some 21) (v := ?_) (a' := ?_) #[true, true, true, true, true, true, true, true, true, true, true, false, false, false, false, false] rfl rfl (take_ofW HT_.out HW_.out (by kernel_rfl)) (fun _ _ _ h => h) (Or.inl ⟨by rfl, ?_⟩) hHeld ?_ ?_
                rotate_left
                · rintro w' ⟨s0, s1, s2, s3⟩
                  go_simp
                  with_reducible rfl
                rotate_left
                · simp only [Act.put, List.setIfInBounds_toArray, List.set_cons_zero, List.set_cons_succ, i64_w, i32_w]
                  rfl
                refine take_ (i := 11) (N := some 25) (v := ?_) (a' := ?_) #[true, true, true, true, true, true, true, true, true, true, true, true, false, false, false, false] rfl rfl (take_ofW HT_.out HW_.out (by kernel_rfl)) (fun _ _ _ h => h) (Or.inl ⟨by rfl, ?_⟩) hHeld ?_ ?_
                rotate_left
                · rintro w' ⟨s0, s1, s2, s3⟩
                  go_simp
                  with_reducible rfl
                rotate_left
                · simp only [Act.put, List.setIfInBounds_toArray, List.set_cons_zero, List.set_cons_succ, i64_w, i32_w]
                  rfl
                refine pure_ (i := 12) (N := some 26) (v := ?_) (a' := ?_) #[true, true, true, true, true, true, true, true, true, true, true, true, true, false, false, false] rfl rfl (any_of HT_.out (by kernel_rfl)) (fun _ _ _ h => h) (Or.inl ⟨by rfl, ?_⟩) ?_ ?_
                rotate_left
                · intro w'
                  go_simp
                  with_reducible rfl
                rotate_left
                · simp only [Act.put, List.setIfInBounds_toArray, List.set_cons_zero, List.set_cons_succ, i64_w, i32_w]
                  rfl
                refine last_ (i := 13) (N := none) #[true, true, true, true, true, true, true, true, true, true, true, true, true, true, false, false] rfl rfl (one_of HT_.out (by kernel_rfl)) (by decide) (fun K hK => ?_)
                refine skip_ (w1 := ?_) (by rfl) rfl ?_ ?_
                rotate_left
                · go_simp
                  rfl
                refine hK.out _ _ ?_
                clear hK K
                refine pure_ (i := 14) (N := some 27) (v := ?_) (a' := ?_) #[true, true, true, true, true, true, true, true, true, true, true, true, true, true, true, false] rfl rfl (any_of HT_.out (by kernel_rfl)) (fun _ _ _ h => h) (Or.inl ⟨by rfl, ?_⟩) ?_ ?_
                rotate_left
                · intro w'
                  go_simp
                  with_reducible rfl
                rotate_left
                · simp only [Act.put, List.setIfInBounds_toArray, List.set_cons_zero, List.set_cons_succ, i64_w, i32_w]
                  rfl
                refine last_ (i := 15) (N := none) #[true, true, true, true, true, true, true, true, true, true, true, true, true, true, true, true] rfl rfl (one_of HT_.out (by kernel_rfl)) (by decide) (fun K hK => ?_)
                refine skip_ (w1 := ?_) (by rfl) rfl ?_ ?_
                rotate_left
                · go_simp
                  rfl
                refine hK.out _ _ ?_
                clear hK K
                refine done_ (done_of HT_.out (by kernel_rfl)) ?_
                try go_wp2
                (try simp only [← hl0_1])
                go_roundg k1
                case measure => have := HK1.out; omega
                case rel => exact ⟨(y120), (wrap64 (x2_1 + 1)), (wrap64 (x3_1 - 1)), (by first | rfl | (simp; done) | (simp [*]; done)), (by first | rfl | (simp; done) | (simp [*]; done)), H', ⟨by have := HK1.out; omega⟩, ⟨by (try simp only [hl0_1]); (with_reducible repeat (first | apply Kd.R_alloc | apply Kd.R_drewN | apply Kd.R_drew)); exact HQ12.out⟩, ⟨by repeat (first | (with_reducible first | exact HK.out | apply Kept.alloc | apply Kept.drewN | apply Kept.drew | refine Kept.setCell ?_ HMgo8.out _ | refine Kept.setCell ?_ HMgo8.out _ | refine Kept.setCell ?_ HMgo8.out _ | refine Kept.setCell ?_ HMgo8.out _) | exact HK.out)⟩, ⟨by repeat (first | (with_reducible first | exact HB.out | apply below_alloc | apply pw_below_drewN | apply below_drew1 | refine below_set ?_ GB8.out | refine below_set ?_ GB8.out | refine below_set ?_ GB8.out | refine below_set ?_ GB8.out) | exact HB.out)⟩⟩
              · rw [if_neg c7] at H
                exact absurd H (by simp)
            · rw [if_neg c6] at H
              exact absurd H (by simp)
          · rw [if_neg c5] at H
            exact absurd H (by simp)
        · rw [if_neg c4] at H
          exact absurd H (by simp)
      · rw [if_neg c3] at H
        have c3b0 : decide (x2_1 < x3_1) = false := decide_eq_false c3
        clear c3
        obtain rfl := Option.some.inj H
        go_wp2
        first | go_end0 | ((try simp only [Exit.inBlock, Exit.then]); refine bodyPost_ret (results_none rfl _ _ _) rfl ?_)
        exact ⟨by first | rfl | (simp [errW_none, errW_some] <;> rfl) | (simp [*, errW_none, errW_some] <;> rfl), (by first | exact (by (with_reducible repeat (first | apply Kd.R_alloc | apply Kd.R_drewN | apply Kd.R_drew)); exact HO_0.out) | (simp only [hl0_1]; exact (by (with_reducible repeat (first | apply Kd.R_alloc | apply Kd.R_drewN | apply Kd.R_drew)); exact HO_0.out))), by repeat (first | (with_reducible first | exact HB.out | apply below_alloc | apply pw_below_drewN | apply below_drew1) | exact HB.out), by repeat (first | (with_reducible first | exact HK.out | apply Kept.alloc | apply Kept.drewN | apply Kept.drew) | exact HK.out)⟩

/-! ### hunt_Run: function 8 -/
/-- A list of pairs for each threshold, the last pair first: a number's place is put. -/
def hunt_Run.step (k : Nat) (i : Int) (s : List Int × List (List (Int × Int))) (j : Int) : Option (List Int × List (List (Int × Int))) :=
  (thresh_Find.f k s.1 j).bind fun v => some (if v = (s.1.length : Int) then s.1 ++ [j] else s.1.set v.toNat j, if v = (s.1.length : Int) then s.2 ++ [(i, j) :: (if 0 < v then s.2.getD (v - 1).toNat [] else [])] else s.2.set v.toNat ((i, j) :: (if 0 < v then s.2.getD (v - 1).toNat [] else [])))
def hunt_Run.row (k : Nat) (i : Int) : List Int × List (List (Int × Int)) → List Int → Option (List Int × List (List (Int × Int)))
  | s, [] => some s
  | s, j :: js => (hunt_Run.step k i s j).bind fun q => hunt_Run.row k i q js
def hunt_Run.go (k : Nat) (b : List Int) : Nat → List Int × List (List (Int × Int)) → List Int → Option (List Int × List (List (Int × Int)))
  | _, s, [] => some s
  | i, s, x :: xs => (hunt_Run.row k (i : Int) s (Plc.pos x b 0).reverse).bind fun q => hunt_Run.go k b (i + 1) q xs
def hunt_Run.ok (x : Int) : Bool := (Lit.int .i64 x).wf
def hunt_Run.pairs (c : List (Int × Int)) : List S42 := c.map fun p => ⟨p.1, p.2⟩
def hunt_Run.f (k : Nat) (l0 : List Int) (l1 : List Int) : Option (List S42 × Int) :=
  if l0.length ≤ 1000 ∧ l1.length ≤ 1000 ∧ l0.all hunt_Run.ok = true ∧ l1.all hunt_Run.ok = true then
    (hunt_Run.go k l1 0 ([], []) l0).bind fun s => (api_Pair.f k (hunt_Run.pairs (s.2.getLastD []))).bind fun l => (hunt_Hits.f l0 l1).bind fun n => some (l, n)
  else none
theorem hunt_Run.step_mono (k : Nat) (i : Int) (s : List Int × List (List (Int × Int))) (j : Int) : LeO (hunt_Run.step k i s j) (hunt_Run.step (k + 1) i s j) := by
  unfold hunt_Run.step
  exact LeO.bind (thresh_Find.mono _ _ _) (fun v => LeO.refl _)
theorem hunt_Run.row_mono (k : Nat) (i : Int) : ∀ (js : List Int) (s : List Int × List (List (Int × Int))), LeO (hunt_Run.row k i s js) (hunt_Run.row (k + 1) i s js)
  | [], s => LeO.refl _
  | j :: js, s => LeO.bind (hunt_Run.step_mono k i s j) (fun q => hunt_Run.row_mono k i js q)
theorem hunt_Run.go_mono (k : Nat) (b : List Int) : ∀ (xs : List Int) (i : Nat) (s : List Int × List (List (Int × Int))), LeO (hunt_Run.go k b i s xs) (hunt_Run.go (k + 1) b i s xs)
  | [], i, s => LeO.refl _
  | x :: xs, i, s => LeO.bind (hunt_Run.row_mono k (i : Int) _ s) (fun q => hunt_Run.go_mono k b xs (i + 1) q)
theorem hunt_Run.mono : ∀ a0 a1 k, LeO (hunt_Run.f k a0 a1) (hunt_Run.f (k + 1) a0 a1) := by
  intro a0 a1 k
  unfold hunt_Run.f
  refine LeO.ite ?_ (LeO.none _)
  exact LeO.bind (hunt_Run.go_mono k a1 a0 0 _) (fun s => LeO.bind (api_Pair.mono _ _) (fun l => LeO.refl _))
theorem hunt_Run.wrap_id {i : Int} (h0 : -9223372036854775808 ≤ i) (h1 : i < 9223372036854775808) : wrap64 i = i := by unfold wrap64; omega
theorem hunt_Run.mid_id (i j : Nat) (h : i + j ≤ 4000000) : wrap64 ((IntKind.u64.wrap (wrap64 ((i : Int) + (j : Int)))) / 2) = (((i + j) / 2 : Nat) : Int) := by
  have e : IntKind.u64.wrap ((i + j : Nat) : Int) = ((i + j : Nat) : Int) := by simp [IntKind.wrap, IntKind.signed, IntKind.bits]; omega
  rw [hunt_Run.wrap_id (i := (i : Int) + (j : Int)) (by omega) (by omega), ← Int.natCast_add, e, hunt_Run.wrap_id (by omega) (by omega)]
  omega
theorem hunt_Run.less (a b : Int) : cmp_Less_int.f a b = some (decide (a < b)) := by
  unfold cmp_Less_int.f cmp_isNaN_int.f
  rw [Option.bind_some, if_neg (by simp)]
theorem hunt_Run.bin_total (x0 : List Int) (x1 : Int) (hl : x0.length ≤ 2000000) (d : Nat) : ∀ (k i j : Nat), i ≤ j → j ≤ x0.length → j - i ≤ d → d < k → ∃ (v : Nat) (b : Bool), slices_BinarySearch_int_int.l0 k x0 x1 (x0.length : Int) (i : Int) (j : Int) = some ((v : Int), b) ∧ v ≤ x0.length := by
  induction d with
  | zero =>
    intro k i j hij hj hd hk
    obtain ⟨k, rfl⟩ : ∃ m, k = m + 1 := ⟨k - 1, by omega⟩
    simp only [slices_BinarySearch_int_int.l0]
    rw [if_neg (by omega)]
    by_cases c : (i : Int) < (x0.length : Int)
    · rw [if_pos c, if_pos (by omega), if_pos c]
      by_cases e : rd x0 (i : Int) = x1
      · rw [if_pos e]; exact ⟨i, true, rfl, by omega⟩
      · rw [if_neg e]
        unfold slices_isNaN_int.f
        rw [Option.bind_some, if_neg (by simp)]
        exact ⟨i, false, rfl, by omega⟩
    · rw [if_neg c]; exact ⟨i, false, rfl, by omega⟩
  | succ d ih =>
    intro k i j hij hj hd hk
    obtain ⟨k, rfl⟩ : ∃ m, k = m + 1 := ⟨k - 1, by omega⟩
    by_cases q : i < j
    · simp only [slices_BinarySearch_int_int.l0]
      have em := Aside0.mk (hunt_Run.mid_id i j (by omega))
      rw [if_pos (by omega), em.out, if_pos (by omega), if_pos (by omega), hunt_Run.less, Option.bind_some]
      by_cases c : rd x0 ((((i + j) / 2 : Nat)) : Int) < x1
      · rw [if_pos (decide_eq_true c), hunt_Run.wrap_id (by omega) (by omega)]
        exact ih k ((i + j) / 2 + 1) j (by omega) hj (by omega) (by omega)
      · rw [if_neg (by simpa using c)]
        exact ih k i ((i + j) / 2) (by omega) (by omega) (by omega) (by omega)
    · obtain ⟨v, b, h1, h2⟩ := ih k i j hij hj (by omega) (by omega)
      exact ⟨v, b, slices_BinarySearch_int_int.mono_l k _ _ _ _ _ _ h1, h2⟩
theorem hunt_Run.find_total (r : List Int) (j : Int) (hl : r.length ≤ 2000000) : ∃ v : Nat, thresh_Find.f (r.length + 1) r j = some (v : Int) ∧ v ≤ r.length := by
  obtain ⟨v, b, h1, h2⟩ := hunt_Run.bin_total r j hl r.length (r.length + 1) 0 r.length (by omega) (by omega) (by omega) (by omega)
  refine ⟨v, ?_, h2⟩
  unfold thresh_Find.f slices_BinarySearch_int_int.f
  have e : ((0 : Nat) : Int) = 0 := rfl
  rw [e] at h1
  rw [h1, Option.bind_some]
/-- Links from one on: what stands in them, the last pair first. -/
def hunt_Run.Chain (W : World) : Value → List (Int × Int) → Prop
  | p, [] => p = .pointer none
  | p, c :: cs => ∃ b q, p = .pointer (some ⟨b, 0, none⟩) ∧ W.heap[b]? = some (.cells #[.int .i64 c.1, .int .i64 c.2, q] 44 (0, 0)) ∧ hunt_Run.Chain W q cs
theorem hunt_Run.Chain.kept {W W' : World} (hk : ∀ (b : Nat) (cells : Array Value), W.heap[b]? = some (Obj.cells cells 44 (0, 0)) → W'.heap[b]? = W.heap[b]?) : ∀ {cs : List (Int × Int)} {p : Value}, hunt_Run.Chain W p cs → hunt_Run.Chain W' p cs
  | [], p, h => h
  | c :: cs, p, ⟨b, q, h1, h2, h3⟩ => ⟨b, q, h1, (hk b _ h2).trans h2, hunt_Run.Chain.kept hk h3⟩
/-- A mark that a range over a function leaves among the deferred calls. -/
def hunt_Run.mark (D : Nat) : Deferred := { target := .collected D, args := #[] }
/-- The way out over marks: each one's block holds no call. -/
theorem hunt_Run.leaves {F : Fence} {n : Nat} {P : Program} {fn : Func} {tmps : Array Value} {R : Ending → World → Prop} (J : World → Prop) (hJ : ∀ (W : World) (D : Nat), J W → W.heap[D]? = some (.deferred (some [])) → J (W.putObj D (.deferred none)))
    (hend : ∀ W, J W → LeavesIn F n P fn tmps R [] .returning W) : ∀ (ms : List Nat) (W : World), J W → (∀ D ∈ ms, W.heap[D]? = some (.deferred (some []))) → ms.Pairwise (fun a b => a ≠ b) → LeavesInM F n P fn tmps R (ms.map hunt_Run.mark) .returning W
  | [], W, h, _, _ => hend W h
  | D :: ms, W, h, hm, hp => by
    have hD := hm D (List.mem_cons_self ..)
    have hq := List.pairwise_cons.mp hp
    refine ⟨by simp, .inl ⟨D, _, rfl, run_takeDeferred hD, ?_⟩⟩
    exact hunt_Run.leaves J hJ hend ms _ (hJ W D h hD) (fun E hE => (World.putObj_heap_other (fun e => hq.1 E hE e.symm)).trans (hm E (List.mem_cons_of_mem _ hE))) hq.2
/-- What lies in memory between two places: the box of the thresholds and the box of the links' ends, both of the call's own; each end leads on. -/
def hunt_Run.Mem (W : World) (n₀ B7 B8 : Nat) (ok : Nat → Prop) (s : List Int × List (List (Int × Int))) : Prop := ∃ (At : Option Addr) (ct : Nat) (Ae : Option Addr) (ce : Nat) (ps : List Value),
  Boxed W B7 25 (.slice At s.1.length ct) ∧ Boxed W B8 35 (.slice Ae s.2.length ce) ∧ Kd.R (Kd.int .i64) 3 W n₀ ok (.slice At s.1.length ct) s.1 ∧ W.ownsRow n₀ 40 1 (.slice Ae s.2.length ce) s.2.length ps ∧ s.1.length = s.2.length ∧
  ∀ i p, ps[i]? = some p → hunt_Run.Chain W p (s.2.getD i [])
theorem hunt_Run.typed44 {W W' : World} {row : Option Nat} (hg : W.grownBy W' row) (hr : ∀ r : Nat, row = some r → ∀ cells : Array Value, W.heap[r]? ≠ some (Obj.cells cells 44 (0, 0))) : ∀ (b : Nat) (cells : Array Value), W.heap[b]? = some (Obj.cells cells 44 (0, 0)) → W'.heap[b]? = W.heap[b]? := by
  intro b cells hb
  exact hg.block b (Array.getElem?_eq_some_iff.1 hb).1 (fun e => hr b e.symm cells hb)
theorem hunt_Run.R_turned {d : Kd Int} {e base : Nat} {ok : Nat → Prop} {v : Value} {xs : List Int} {W W' : World} {row : Option Nat} (h : d.R e W base ok v xs) (hg : W.grownBy W' row) (hr : ∀ r, row = some r → ∃ o : Obj, W.heap[r]? = some o ∧ o.isCells = false) : d.R e W' base ok v xs := by
  refine Kd.R_mono (Kd.R_step (Kd.R_bound h) (fun k hk hlt => hg.block k hlt (fun he => ?_))) (fun k hk => hk.1)
  obtain ⟨_, _, _, q, _, cells, hc⟩ := hk
  obtain ⟨o, ho, hn⟩ := hr k he.symm
  rw [hc] at ho
  cases ho
  cases hn
theorem hunt_Run.boxed_turned {W W' : World} {B : Nat} {t : TypeId} {u : Value} {row : Option Nat} (hb : Boxed W B t u) (hg : W.grownBy W' row) (hr : ∀ r, row = some r → ∃ o : Obj, W.heap[r]? = some o ∧ o.isCells = false) : Boxed W' B t u := by
  refine hb.kept hg (fun he => ?_)
  obtain ⟨o, ho, hn⟩ := hr B he.symm
  have hb' : W.heap[B]? = some (.cells #[u] t (0, 0)) := hb
  rw [ho] at hb'
  cases hb'
  cases hn
/-- What a block that holds no cells does, leaves all as it is. -/
theorem hunt_Run.Mem.turned {W W' : World} {n₀ B7 B8 : Nat} {ok : Nat → Prop} {s : List Int × List (List (Int × Int))} {row : Option Nat} (h : hunt_Run.Mem W n₀ B7 B8 ok s) (hg : W.grownBy W' row) (hr : ∀ r, row = some r → ∃ o : Obj, W.heap[r]? = some o ∧ o.isCells = false) : hunt_Run.Mem W' n₀ B7 B8 ok s := by
  obtain ⟨At, ct, Ae, ce, ps, h1, h2, h3, h4, h5, h6⟩ := h
  refine ⟨At, ct, Ae, ce, ps, hunt_Run.boxed_turned h1 hg hr, hunt_Run.boxed_turned h2 hg hr, hunt_Run.R_turned h3 hg hr, h4.kept hg ?_, h5, fun i p hp => (h6 i p hp).kept (hunt_Run.typed44 hg ?_)⟩
  · cases e : (Value.slice Ae s.2.length ce).ownBlock with
    | none => exact Or.inl rfl
    | some g =>
      refine Or.inr (fun q => ?_)
      obtain ⟨o, ho, hn⟩ := hr g q.symm
      rcases h4.2 with ⟨e1, _⟩ | ⟨g', cap, cur, e1, _, hh, _⟩
      · rw [e1] at e; cases e
      · rw [e1] at e
        have eg : g' = g := Option.some.inj e
        subst eg
        rw [hh] at ho
        cases ho
        cases hn
  · intro r hrr cells hc
    obtain ⟨o, ho, hn⟩ := hr r hrr
    rw [hc] at ho
    cases ho
    cases hn
theorem hunt_Run.Mem.mono {W : World} {n₀ B7 B8 : Nat} {ok ok' : Nat → Prop} {s : List Int × List (List (Int × Int))} (h : hunt_Run.Mem W n₀ B7 B8 ok s) (hm : ∀ g, ok g → ok' g) : hunt_Run.Mem W n₀ B7 B8 ok' s := by
  obtain ⟨At, ct, Ae, ce, ps, h1, h2, h3, h4, h5, h6⟩ := h
  exact ⟨At, ct, Ae, ce, ps, h1, h2, Kd.R_mono h3 hm, h4, h5, h6⟩
/-- What is new is none of what lies. -/
theorem hunt_Run.Mem.old {W : World} {n₀ B7 B8 : Nat} {ok : Nat → Prop} {s : List Int × List (List (Int × Int))} (h : hunt_Run.Mem W n₀ B7 B8 ok s) {B : Nat} (hB : W.heap.size ≤ B) : hunt_Run.Mem W n₀ B7 B8 (fun g => g ≠ B) s := by
  obtain ⟨At, ct, Ae, ce, ps, h1, h2, h3, h4, h5, h6⟩ := h
  exact ⟨At, ct, Ae, ce, ps, h1, h2, Kd.R_mono (Kd.R_bound h3) (fun g hg => by have := hg.2.2.1; omega), h4, h5, h6⟩
/-- The state behind places more, with however many rounds. -/
def hunt_Run.Steps (i : Int) : List Int × List (List (Int × Int)) → List Int → List Int × List (List (Int × Int)) → Prop
  | s, [], s' => s' = s
  | s, j :: js, s' => ∃ k q, hunt_Run.step k i s j = some q ∧ hunt_Run.Steps i q js s'
/-- Between two places: what a round of the range over the places keeps. -/
def hunt_Run.I (w1 : World) (B : Nat) (i : Nat) (ms : List Nat) (v : Value) (s1 : List Int × List (List (Int × Int))) (pre : List (Nat × Int)) (W : World) : Prop := ∃ s2 : List Int × List (List (Int × Int)),
  hunt_Run.Mem W w1.heap.size w1.heap.size (w1.heap.size + 1) (fun g => g ≠ B) s2 ∧ hunt_Run.Steps (i : Int) s1 (pre.map (·.2)) s2 ∧ s2.1.length ≤ i * 1000 + pre.length ∧ Below w1.heap.size w1 W ∧ (∀ D ∈ ms, W.heap[D]? = some (Obj.deferred (some []))) ∧ Boxed W B 3 (.int .i64 (i : Int)) ∧ Boxed W (B + 1) 25 v
theorem hunt_Run.I_own (w1 : World) (B : Nat) (i : Nat) (ms : List Nat) (v : Value) (s1 : List Int × List (List (Int × Int))) (M : Nat) (hM : w1.heap.size ≤ M) (hms : ∀ D ∈ ms, D < M) : OwnFrom M (hunt_Run.I w1 B i ms v s1) := by
  rintro pre W W' row ⟨s2, h1, h2, h3, h4, h5, h6, h7⟩ hg hrow
  refine ⟨s2, h1.turned hg (fun r e => (hrow r e).2), h2, h3, h4.grown hg h4.size (fun k e => Nat.le_trans hM (hrow k e).1), fun D hD => ?_, hunt_Run.boxed_turned h6 hg (fun r e => (hrow r e).2), hunt_Run.boxed_turned h7 hg (fun r e => (hrow r e).2)⟩
  have h0 := h5 D hD
  exact (hg.block D (Array.getElem?_eq_some_iff.1 h0).1 (fun e => by have := (hrow D e.symm).1; have := hms D hD; omega)).trans h0
theorem hunt_Run.le_rounds {α : Type} {g : Nat → Option α} (hm : ∀ k, LeO (g k) (g (k + 1))) {a b : α} {i j : Nat} (h1 : g i = some a) (h2 : g j = some b) : a = b := by
  have up : ∀ n i a, g i = some a → g (i + n) = some a := by
    intro n
    induction n with
    | zero => intro i a h; exact h
    | succ n ih => intro i a h; rw [show i + (n + 1) = (i + n) + 1 by omega]; exact hm _ _ (ih i a h)
  have e1 := up j i a h1
  have e2 := up i j b h2
  rw [Nat.add_comm] at e1
  exact Option.some.inj (e1.symm.trans e2)
theorem hunt_Run.Steps.row {k : Nat} {i : Int} : ∀ {js : List Int} {s s' q : List Int × List (List (Int × Int))}, hunt_Run.Steps i s js s' → hunt_Run.row k i s js = some q → s' = q
  | [], s, s', q, h, hg => by
    have e : s' = s := h
    have e2 : some s = some q := hg
    rw [e]; exact Option.some.inj e2
  | j :: js, s, s', q, ⟨k', p, a, c⟩, hg => by
    obtain ⟨p2, h1, hg⟩ := Option.bind_eq_some_iff.mp (show ((hunt_Run.step k i s j).bind fun q => hunt_Run.row k i q js) = some q from hg)
    have e := hunt_Run.le_rounds (fun n => hunt_Run.step_mono n i s j) h1 a
    subst e
    exact hunt_Run.Steps.row c hg
/-- An operation that is no defer statement. -/
def Rr.plain (o : Oper) : Bool := match o.op with | .defer _ => false | _ => true
theorem Rr.plain_ne {o : Oper} (h : Rr.plain o = true) (c : _) : o.op ≠ .defer c := by
  intro e; unfold Rr.plain at h; rw [e] at h; exact absurd h (by simp)
theorem Rr.upon {l n : Nat} {P : Program} {o : Oper} {a : Act} {next : Act → World → Prop} {Q : Exit → Act → World → Prop} {r : Result Next} (h : o.upon P a next Q r) : o.uponIn (Fence.wide.inRound l) n P a next Q r := by
  cases r with
  | ok x w' =>
    cases x with
    | value v => exact h
    | skip => exact h
    | defer d => exact h
    | enter f args =>
      refine ⟨fun q => absurd q (by simp [Fence.wide, Fence.inRound]), CallsIn.inRound l ((callsIn_wide.2 h).mono ?_)⟩
      intro e w2 he
      cases e <;> exact he
    | row row args => exact ⟨fun q => absurd q (by simp [Fence.wide, Fence.inRound]), fun c cs _ => let ⟨v, w2, r1, s⟩ := h c cs; ⟨v, w2, r1, stepsIn_wide.2 s⟩⟩
    | _ => exact h.elim
  | halt e w' => cases e <;> first | exact h | exact h.elim
theorem Rr.any {l n : Nat} {P : Program} {md : Region.Mode} {ops : Array Oper} {Q : Exit → Act → World → Prop} (hp : ops.all Rr.plain = true) (hL : ¬ LetsOut Q) : ∀ (fuel : Nat) (listed : Array Bool) (a : Act) (w : World), wpAny P md ops Q fuel listed a w → wpAnyIn (Fence.wide.inRound l) n P md ops Q fuel listed a w
  | 0, _, _, _, h => h
  | fuel + 1, listed, a, w, h => by
    refine ⟨h.1, fun i hi => ?_⟩
    have h2 := h.2 i hi
    unfold wpOp at h2
    unfold wpOpIn
    cases ho : ops[i]? with
    | none =>
      rw [ho] at h2
      exact Rr.any hp hL fuel _ a w h2
    | some o =>
      rw [ho] at h2
      dsimp only at h2 ⊢
      have hpo : Rr.plain o = true := by
        obtain ⟨hlt, e⟩ := Array.getElem?_eq_some_iff.1 ho
        rw [← e]
        exact (Array.all_eq_true.1 hp) i hlt
      split at h2
      · rename_i c
        rw [if_pos c]
        rcases h2 with h3 | h3
        · refine ⟨fun _ _ => trivial, ?_⟩
          show o.uponIn (Fence.wide.inRound l) n P a _ Q ((o.semAt (some l) a.eval).run P w)
          rw [Oper.semAt_some l _ _ (Rr.plain_ne hpo)]
          exact Rr.upon (Oper.wp_mono (fun a w q => Rr.any hp hL fuel _ a w q) h3)
        · exact absurd h3.2 hL
      · rename_i c
        rw [if_neg c]
        exact ⟨fun _ _ => trivial, Rr.any hp hL fuel _ _ w h2⟩
/-- A region that draws its order, in a round of a range over a function: by the words of the print. -/
theorem Rr.start {S : World → Prop} {ds : List Nat} {P : Program} {ops : Array Oper} {Q : Exit → Act → World → Prop} {id m l n : Nat} {a : Act} {w : World} (b : Array Bool) (hm : P.follows .mixedOrders = true) (hn : ops.size = m) (hl : Array.replicate m false = b) (hp : ops.all Rr.plain = true) (hL : ¬ LetsOut Q) (hS : S w.drew)
    (h : S w.drew → wpAnyLast P .any ops Q S ds m b a w.drew) : (Code.region id ops true).wpIn (Fence.wide.inRound l) n P Q a w := by
  subst hn
  subst hl
  exact wpIn_region_any hm (Rr.any hp hL _ _ _ _ (wpAny_of_last _ _ _ _ (h hS)))
/-- The look-up of a number's places in any later world: the slice lies below where the map was done. -/
theorem Plc.look {W1 W : World} {b n : Nat} {l : List Int} (h : Plc W1 b n l) (hb : Below W1.heap.size W1 W) (hn : n < maxLen) {x : Int} (hw : (Lit.int .i64 x).wf = true) :
    ∃ A c, (Instr.lookup 33 (.map (some b)) (.int .i64 x) false).run Try.prog W = .ok (.slice A (Plc.pos x l 0).length c) W ∧ Kd.C (Kd.int .i64) W A (Plc.pos x l 0).length (Plc.pos x l 0) ∧ (Plc.pos x l 0).length ≤ c ∧ ∀ g, (Value.slice A (Plc.pos x l 0).length c).ownBlock = some g → g < W1.heap.size := by
  obtain ⟨D, h1, h2⟩ := h
  have hown := h1.kept (grown_of_below hb none) (by simp) (fun _ _ _ y _ => by cases y.val.ownBlock <;> simp)
  have hlow : W.Shuns b (fun g => W1.heap.size ≤ g) := by
    have s0 : W1.Shuns b (fun _ => False) := fun _ _ _ _ _ _ _ q => q
    have s1 : W1.Shuns b (fun g => W1.heap.size ≤ g) := s0.reno h1 (fun g hg => Or.inr hg)
    have hlt : b < W1.heap.size := by obtain ⟨es, clock, hbb, _⟩ := h1; exact (Array.getElem?_eq_some_iff.1 hbb).1
    exact s1.kept (grown_of_below hb none) hlt (by simp)
  have key := Plc.key hw
  obtain ⟨v, zs, hrun, hat, hoi, hzl, hback⟩ := World.ownsGroups.at hown Plc.law Try.underlying33 (Plc.zero _) hn key
  obtain rfl := (h2 x hw).same hat hoi
  have hv : ∀ g, v.ownBlock = some g → g < W1.heap.size := by
    obtain ⟨es, clock, hbb, F, hs, rfl, hbb2, hlen, hap⟩ := hown
    rcases Maps.fit_look false Plc.law Try.underlying33 (Plc.zero _) hbb F key with ⟨hrun2, _, _⟩ | ⟨e0, y, hm0, h3, hrun2, _⟩
    · intro g hg
      rw [hrun] at hrun2
      injection hrun2 with e1 e2
      rw [e1] at hg
      cases hg
    · intro g hg
      rw [hrun] at hrun2
      injection hrun2 with e1 e2
      rw [e1] at hg
      have := hlow es clock hbb e0 hm0 g hg
      omega
  obtain ⟨A, c, rfl, hr, hc⟩ := Plc.reads hoi
  exact ⟨A, c, hrun, hr, hc, hv⟩
/-! What an act's slots hold, whatever the frame. -/
theorem Ev.same {a : Act} {N : Nat} {v : Value} (h : N < a.tmps.size) : (a.put (some N) v).eval (.tmp N) = v := by
  simp [Act.put, Act.eval, h]
theorem Ev.other {a : Act} {N M : Nat} {v : Value} (h : N ≠ M) : (a.put (some N) v).eval (.tmp M) = a.eval (.tmp M) := by
  simp [Act.put, Act.eval, Array.getElem?_setIfInBounds, h]
theorem Ev.size {a : Act} {d : Option Tmp} {v : Value} : (a.put d v).tmps.size = a.tmps.size := by
  cases d <;> simp [Act.put]
theorem Ev.put0 {a : Act} {v : Value} : a.put none v = a := rfl
section
variable {ops : Array Oper} {S : World → Prop} {a : Act} {o : Oper} {W : World} {K : Act → World → Prop} {Q : Exit → Act → World → Prop}
theorem Ev.move {P : Program} {s : Operand} {v : Value} (ho : o.op = .move s) (hg : o.guard = none) (hs : a.eval s = v) : Yields P ops o v a := by
  refine Or.inl ⟨by unfold Region.wanted; rw [hg], fun w => ?_⟩
  unfold execOp
  rw [ho]
  simp only [hs]
  rfl
theorem Ev.load {P : Program} {t : TypeId} {s : Operand} {p : Addr} {v : Value} (ho : o.op = .load t s) (hg : o.guard = none) (hs : a.eval s = .pointer (some p)) (hr : ∀ w, S w → (Instr.loadAt t (.pointer (some p))).run P w = .ok v w) : YieldsIf P ops S o v a := by
  refine Or.inl ⟨by unfold Region.wanted; rw [hg], fun w hw => ?_⟩
  unfold execOp
  rw [ho]
  simp only [hs, Sem.run_bind, hr w hw, Result.andThen_ok, Sem.run_pure]
theorem Ev.load25 {W : World} {p : Addr} {v : Value} (hc : W.cell? p = some v) : (Instr.loadAt 25 (.pointer (some p))).run Try.prog W = .ok v W := by
  go_simp
theorem Ev.load35 {W : World} {p : Addr} {v : Value} (hc : W.cell? p = some v) : (Instr.loadAt 35 (.pointer (some p))).run Try.prog W = .ok v W := by
  go_simp
theorem Ev.store25 {W : World} {B : Nat} {A : Option Addr} {n c : Nat} {u : Value} (hb : Boxed W B 25 u) : (Instr.storeAt 25 (.pointer (some ⟨B, 0, none⟩)) (.slice A n c)).run Try.prog W = .ok () (W.setCell ⟨B, 0, none⟩ (.slice A n c)) := by
  have hc := hb.cell
  have hf := hb.frozen
  go_simp
theorem Ev.store35 {W : World} {B : Nat} {A : Option Addr} {n c : Nat} {u : Value} (hb : Boxed W B 35 u) : (Instr.storeAt 35 (.pointer (some ⟨B, 0, none⟩)) (.slice A n c)).run Try.prog W = .ok () (W.setCell ⟨B, 0, none⟩ (.slice A n c)) := by
  have hc := hb.cell
  have hf := hb.frozen
  go_simp
theorem Ev.build25 {W : World} {s : Operand} {x : Int} (ho : o.op = .buildSlice 25 1 #[(0, s)]) (hs : a.eval s = .int .i64 x) : (execOp a.eval o).run Try.prog W = .ok (.value (.slice (some ⟨W.heap.size, 0, none⟩) 1 1)) (W.alloc (.cells #[.int .i64 x] 3)) := by
  unfold execOp
  rw [ho]
  generalize a.eval = ev at hs ⊢
  go_simp
theorem Ev.build35 {W : World} {s : Operand} {x : Option Addr} (ho : o.op = .buildSlice 35 1 #[(0, s)]) (hs : a.eval s = .pointer x) : (execOp a.eval o).run Try.prog W = .ok (.value (.slice (some ⟨W.heap.size, 0, none⟩) 1 1)) (W.alloc (.cells #[.pointer x] 40)) := by
  unfold execOp
  rw [ho]
  generalize a.eval = ev at hs ⊢
  go_simp
theorem Ev.append {P : Program} (s x : Operand) (t e : TypeId) (z : Value) (bytes : Nat)
    (ho : o.op = .call { callee := .builtin .append, args := #[s, x], argTypes := #[t, t] })
    (ht : P.underlying t = some (.slice e)) (hinfo : (P.info? e).map (fun i => (i.zero, i.size, i.bytes)) = some (some z, 1, bytes)) (hz : z.cells.size = 1)
    (base : Nat) (v : Value) (n : Nat) (xs : List Value) (hs : a.eval s = v) (hown : W.ownsRow base e 1 v n xs) (bx : Nat) (u : Value) (hx : a.eval x = .slice (some ⟨bx, 0, none⟩) 1 1) (hu : W.cell? ⟨bx, 0, none⟩ = some u) (h1 : u.oneCell' = true) (h63 : n + 1 ≤ maxLen) (hbytes : (n + 1) * bytes ≤ 140737488355328) (hbase : base ≤ W.heap.size)
    (h : ∀ v' w', w'.ownsRow base e 1 v' (n + 1) (xs ++ [u]) → W.grownBy w' v.ownBlock → (v'.ownBlock = v.ownBlock ∨ v'.ownBlock = some W.heap.size) → K (a.put o.dst v') w') : o.wp P a W K Q := by
  obtain ⟨i, hi, hz0, hz1, hz2⟩ := info_parts hinfo
  obtain ⟨v', w', hr, h2, h3, h4, h5⟩ := run_append_own_at (P := P) W base t o.type e i z 1 bytes ht hi hz0 hz1 hz2 hz (by omega) v n xs hown ⟨bx, 0, none⟩ 1 1 [u] rfl (fun j y hj => by
    match j, hj with
    | 0, hj => simp at hj; subst hj; exact hu
    | j + 1, hj => simp at hj) (fun y hy => by simp at hy; subst hy; exact h1) h63 hbytes hbase
  unfold Oper.wp execOp
  simp only [ho, resolve, invoke, builtin, Sem.run_bind, Sem.run_pure, Result.andThen_ok, List.map_toArray, List.map_cons, List.map_nil, hs, hx, hr]
  exact h v' w' h2 h3 h5
end
noncomputable def Rg.ops14 : Array Oper := (Try.f8.body.bind fun c => opsIn c 14).getD #[]
noncomputable def Rg.ops15 : Array Oper := (Try.f8.body.bind fun c => opsIn c 15).getD #[]
theorem Rg.size14 : Rg.ops14.size = 10 := by rfl
theorem Rg.plain14 : Rg.ops14.all Rr.plain = true := by kernel_rfl
theorem Rg.size15 : Rg.ops15.size = 10 := by rfl
theorem Rg.plain15 : Rg.ops15.all Rr.plain = true := by kernel_rfl
theorem Ev.own_ne {W : World} {base : Nat} {e t : TypeId} {v : Value} {n : Nat} {xs : List Value} {B : Nat} {c : Array Value} (h : W.ownsRow base e 1 v n xs) (hb : W.heap[B]? = some (.cells c t (0, 0))) (hne : t ≠ e) : some B ≠ v.ownBlock := by
  intro he
  rcases h.2 with ⟨rfl, _⟩ | ⟨g, cap, cur, rfl, _, hg, _⟩
  · cases he
  · injection he with he
    rw [he] at hb
    rw [hb] at hg
    injection hg with hg
    injection hg with _ h2
    exact hne h2
theorem Ev.own_form {W : World} {base : Nat} {e : TypeId} {v : Value} {n : Nat} {xs : List Value} (h : W.ownsRow base e 1 v n xs) : ∃ A c, v = .slice A n c := by
  rcases h.2 with ⟨rfl, h0⟩ | ⟨g, cap, cur, rfl, _, hg, _⟩
  · subst h0; exact ⟨none, 0, rfl⟩
  · exact ⟨_, _, rfl⟩
theorem Ev.own_kept {W W' : World} {base : Nat} {e : TypeId} {v : Value} {n : Nat} {xs : List Value} {row : Option Nat} (h : W.ownsRow base e 1 v n xs) (hg : W.grownBy W' row) (hne : ∀ k, v.ownBlock = some k → some k ≠ row) : W'.ownsRow base e 1 v n xs := by
  refine h.kept hg ?_
  cases hv : v.ownBlock with
  | none => exact Or.inl rfl
  | some k => exact Or.inr (hne k hv)
theorem Ev.own_set {W : World} {base : Nat} {e : TypeId} {v : Value} {n : Nat} {xs : List Value} {B : Nat} (h : W.ownsRow base e 1 v n xs) (hne : some B ≠ v.ownBlock) (x : Value) : (W.setCell ⟨B, 0, none⟩ x).ownsRow base e 1 v n xs := by
  refine Ev.own_kept h (row := some B) ⟨rfl, rfl, rfl, by simp [World.setCell], fun k hk hn => Below.heap_setCell W ⟨B, 0, none⟩ x k (fun e => hn (by rw [e]))⟩ (fun k hk he => hne (by rw [hk, he]))
theorem Ev.boxed_set {W : World} {B : Nat} {t : TypeId} {u : Value} (h : Boxed W B t u) (x : Value) : Boxed (W.setCell ⟨B, 0, none⟩ x) B t x := by
  unfold Boxed at h ⊢
  have := blk_set h 0 x
  simpa using this
theorem Ev.boxed_far {W : World} {B C : Nat} {t : TypeId} {u : Value} (h : Boxed W B t u) (hne : B ≠ C) (x : Value) : Boxed (W.setCell ⟨C, 0, none⟩ x) B t u := blk_far h hne x
theorem Ev.wanted {ops : Array Oper} {a : Act} {o : Oper} (hg : o.guard = none) : Region.wanted o (yielded ops a.tmps) = true := by unfold Region.wanted; rw [hg]
theorem Ev.store {P : Program} {a : Act} {o : Oper} {W W' : World} {K : Act → World → Prop} {Q : Exit → Act → World → Prop} {t : TypeId} {s x : Operand} {p : Addr} {v : Value} (ho : o.op = .store t s x) (hd : o.dst = none) (hs : a.eval s = .pointer (some p)) (hx : a.eval x = v) (hr : (Instr.storeAt t (.pointer (some p)) v).run P W = .ok () W') (h : K a W') : o.wp P a W K Q := by
  have e : (execOp a.eval o).run P W = .ok .skip W' := by
    unfold execOp
    rw [ho]
    simp only [hs, hx, Sem.run_bind, hr, Result.andThen_ok, Sem.run_pure]
  unfold Oper.wp
  rw [e]
  show K (a.put o.dst undef) W'
  rw [hd]; exact h
theorem Ev.made {P : Program} {a : Act} {o : Oper} {W W' : World} {K : Act → World → Prop} {Q : Exit → Act → World → Prop} {N : Tmp} {v : Value} (hd : o.dst = some N) (hr : (execOp a.eval o).run P W = .ok (.value v) W') (h : K (a.put (some N) v) W') : o.wp P a W K Q := by
  unfold Oper.wp
  rw [hr]
  show K (a.put o.dst v) W'
  rw [hd]; exact h
set_option maxHeartbeats 4000000 in
set_option maxRecDepth 100000 in
theorem Rg.r14 {l n id : Nat} {Q : Exit → Act → World → Prop} {a : Act} {W : World} {n₀ : Nat} {y : Int} {p : Option Addr} {At Ae : Option Addr} {nt ct ne ce : Nat} {xs ps : List Value}
    (hL : ¬ LetsOut Q) (hP : ∀ c a a' w, Q (.panic c) a w → Q (.panic c) a' w) (hsz : a.tmps.size = 99) (h7 : a.eval (.tmp 7) = .pointer (some ⟨n₀, 0, none⟩)) (h8 : a.eval (.tmp 8) = .pointer (some ⟨n₀ + 1, 0, none⟩)) (h12 : a.eval (.tmp 12) = .int .i64 y) (h14 : a.eval (.tmp 14) = .pointer p)
    (m1 : Boxed W n₀ 25 (.slice At nt ct)) (m2 : Boxed W (n₀ + 1) 35 (.slice Ae ne ce)) (m3 : W.ownsRow n₀ 3 1 (.slice At nt ct) nt xs) (m4 : W.ownsRow n₀ 40 1 (.slice Ae ne ce) ne ps) (ht : nt ≤ 2000000) (he : ne ≤ 2000000)
    (hQ : ∀ a' W' At' ct' Ae' ce', Boxed W' n₀ 25 (.slice At' (nt + 1) ct') → Boxed W' (n₀ + 1) 35 (.slice Ae' (ne + 1) ce') → W'.ownsRow n₀ 3 1 (.slice At' (nt + 1) ct') (nt + 1) (xs ++ [.int .i64 y]) → W'.ownsRow n₀ 40 1 (.slice Ae' (ne + 1) ce') (ne + 1) (ps ++ [.pointer p]) →
      Kept W W' (fun k => k = n₀ ∨ k = n₀ + 1 ∨ some k = (Value.slice At nt ct).ownBlock ∨ some k = (Value.slice Ae ne ce).ownBlock) → Below n₀ W W' → ((Value.slice At' (nt + 1) ct').ownBlock = (Value.slice At nt ct).ownBlock ∨ ∃ b, (Value.slice At' (nt + 1) ct').ownBlock = some b ∧ W.heap.size ≤ b) → Q .normal a' W') :
    (Code.region id Rg.ops14 true).wpIn (Fence.wide.inRound l) n Try.prog Q a W := by
  have hlt := m2.lt
  refine Rr.start (S := fun w' => w'.cell? ⟨n₀, 0, none⟩ = some (.slice At nt ct) ∧ w'.cell? ⟨n₀ + 1, 0, none⟩ = some (.slice Ae ne ce)) (ds := [8, 9]) #[false, false, false, false, false, false, false, false, false, false] (by kernel_rfl) Rg.size14 rfl Rg.plain14 hL ⟨m1.cell, m2.cell⟩ (fun hHeld => ?_)
  have k0 : Kept W W.drew (fun k => k = n₀ ∨ k = n₀ + 1 ∨ some k = (Value.slice At nt ct).ownBlock ∨ some k = (Value.slice Ae ne ce).ownBlock) := Kept.refl W _
  have b0 : Below n₀ W W.drew := below_drew1 (Below.refl _ _)
  have m1 : Boxed W.drew n₀ 25 (.slice At nt ct) := m1
  have m2 : Boxed W.drew (n₀ + 1) 35 (.slice Ae ne ce) := m2
  have m3 : W.drew.ownsRow n₀ 3 1 (.slice At nt ct) nt xs := m3
  have m4 : W.drew.ownsRow n₀ 40 1 (.slice Ae ne ce) ne ps := m4
  have hz0 : W.heap.size ≤ W.drew.heap.size := Nat.le_refl _
  generalize W.drew = W0 at *
  refine pure_ (i := 1) (N := some 55) (v := .int .i64 y) #[false, true, false, false, false, false, false, false, false, false] rfl rfl (by kernel_rfl) (fun c _ _ h => hP c _ _ _ h) (Ev.move rfl rfl h12) rfl ?_
  refine pure_ (i := 5) (N := some 59) (v := .pointer p) #[false, true, false, false, false, true, false, false, false, false] rfl rfl (by kernel_rfl) (fun c _ _ h => hP c _ _ _ h) (Ev.move rfl rfl (by rw [Ev.other (by decide)]; exact h14)) rfl ?_
  refine take_ (i := 0) (N := some 54) (v := .slice At nt ct) #[true, true, false, false, false, true, false, false, false, false] rfl rfl (by kernel_rfl) (fun c _ _ h => hP c _ _ _ h) ?l0 hHeld rfl ?_
  case l0 => exact Ev.load rfl rfl (by rw [Ev.other (by decide), Ev.other (by decide)]; exact h7) (fun w hw => Ev.load25 hw.1)
  refine take_ (i := 4) (N := some 58) (v := .slice Ae ne ce) #[true, true, false, false, true, true, false, false, false, false] rfl rfl (by kernel_rfl) (fun c _ _ h => hP c _ _ _ h) ?l1 hHeld rfl ?_
  case l1 => exact Ev.load rfl rfl (by rw [Ev.other (by decide), Ev.other (by decide), Ev.other (by decide)]; exact h8) (fun w hw => Ev.load35 hw.2)
  obtain ⟨a1, ha1⟩ : ∃ a1, a1 = ((((a.put (some 55) (Value.int .i64 y)).put (some 59) (Value.pointer p)).put (some 54) (Value.slice At nt ct)).put (some 58) (Value.slice Ae ne ce)) := ⟨_, rfl⟩
  have z1 : a1.tmps.size = 99 := by rw [ha1, Ev.size, Ev.size, Ev.size, Ev.size]; exact hsz
  have e7 : a1.eval (.tmp 7) = .pointer (some ⟨n₀, 0, none⟩) := by rw [ha1, Ev.other (by decide), Ev.other (by decide), Ev.other (by decide), Ev.other (by decide)]; exact h7
  have e8 : a1.eval (.tmp 8) = .pointer (some ⟨n₀ + 1, 0, none⟩) := by rw [ha1, Ev.other (by decide), Ev.other (by decide), Ev.other (by decide), Ev.other (by decide)]; exact h8
  have e58 : a1.eval (.tmp 58) = .slice Ae ne ce := by rw [ha1, Ev.same (by simp only [Ev.size, hsz]; decide)]
  have e54 : a1.eval (.tmp 54) = .slice At nt ct := by rw [ha1, Ev.other (by decide), Ev.same (by simp only [Ev.size, hsz]; decide)]
  have e59 : a1.eval (.tmp 59) = .pointer p := by rw [ha1, Ev.other (by decide), Ev.other (by decide), Ev.same (by simp only [Ev.size, hsz]; decide)]
  have e55 : a1.eval (.tmp 55) = .int .i64 y := by rw [ha1, Ev.other (by decide), Ev.other (by decide), Ev.other (by decide), Ev.same (by simp only [Ev.size, hsz]; decide)]
  rw [← ha1]
  clear ha1
  have lT : ∀ k, (Value.slice At nt ct).ownBlock = some k → n₀ ≤ k ∧ k < W0.heap.size := m3.lt
  have lE : ∀ k, (Value.slice Ae ne ce).ownBlock = some k → n₀ ≤ k ∧ k < W0.heap.size := m4.lt
  have t1 : some n₀ ≠ (Value.slice At nt ct).ownBlock := Ev.own_ne m3 m1 (by decide)
  have t2 : some (n₀ + 1) ≠ (Value.slice At nt ct).ownBlock := Ev.own_ne m3 m2 (by decide)
  have t3 : some n₀ ≠ (Value.slice Ae ne ce).ownBlock := Ev.own_ne m4 m1 (by decide)
  have t4 : some (n₀ + 1) ≠ (Value.slice Ae ne ce).ownBlock := Ev.own_ne m4 m2 (by decide)
  have tTE : ∀ k, (Value.slice Ae ne ce).ownBlock = some k → some k ≠ (Value.slice At nt ct).ownBlock := fun k hk he => by
    rcases m4.2 with ⟨q, _⟩ | ⟨g, cap, cur, q, _, hg, _⟩
    · rw [q] at hk; cases hk
    · have hkg : some g = some k := by rw [q] at hk; exact hk
      injection hkg with hkg
      subst hkg
      exact Ev.own_ne m3 hg (by decide) he
  -- both stores
  have fin : ∀ a' W' v1 v2, a'.tmps.size = 99 → a'.eval (.tmp 7) = .pointer (some ⟨n₀, 0, none⟩) → a'.eval (.tmp 8) = .pointer (some ⟨n₀ + 1, 0, none⟩) → a'.eval (.tmp 57) = v1 → a'.eval (.tmp 61) = v2 → Boxed W' n₀ 25 (.slice At nt ct) → Boxed W' (n₀ + 1) 35 (.slice Ae ne ce) →
      W'.ownsRow n₀ 3 1 v1 (nt + 1) (xs ++ [.int .i64 y]) → W'.ownsRow n₀ 40 1 v2 (ne + 1) (ps ++ [.pointer p]) → Kept W W' (fun k => k = n₀ ∨ k = n₀ + 1 ∨ some k = (Value.slice At nt ct).ownBlock ∨ some k = (Value.slice Ae ne ce).ownBlock) → Below n₀ W W' → (v1.ownBlock = (Value.slice At nt ct).ownBlock ∨ ∃ b, v1.ownBlock = some b ∧ W.heap.size ≤ b) →
      wpAnyLast Try.prog Region.Mode.any Rg.ops14 Q (fun w' => w'.cell? ⟨n₀, 0, none⟩ = some (.slice At nt ct) ∧ w'.cell? ⟨n₀ + 1, 0, none⟩ = some (.slice Ae ne ce)) [8, 9] 2 #[true, true, true, true, true, true, true, true, false, false] a' W' := by
    intro a' W' v1 v2 za f7 f8 f57 f61 q1 q2 q3 q4 qk qb qn
    obtain ⟨A1, c1, rfl⟩ := Ev.own_form q3
    obtain ⟨A2, c2, rfl⟩ := Ev.own_form q4
    refine last_ (i := 8) (N := none) #[true, true, true, true, true, true, true, true, true, false] rfl rfl (by kernel_rfl) (by decide) (fun K hK => ?_)
    rw [if_pos (Ev.wanted rfl)]
    refine Ev.store rfl rfl f7 f57 (Ev.store25 q1) ?_
    refine hK.out _ _ ?_
    have q1' := Ev.boxed_set q1 (.slice A1 (nt + 1) c1)
    have q2' := Ev.boxed_far q2 (show n₀ + 1 ≠ n₀ by omega) (.slice A1 (nt + 1) c1)
    have q3' := Ev.own_set (B := n₀) q3 (Ev.own_ne q3 q1 (by decide)) (.slice A1 (nt + 1) c1)
    have q4' := Ev.own_set (B := n₀) q4 (Ev.own_ne q4 q1 (by decide)) (.slice A1 (nt + 1) c1)
    have qk' := qk.setCell (p := ⟨n₀, 0, none⟩) (Or.inl (Or.inl rfl)) (.slice A1 (nt + 1) c1)
    have qb' := qb.setCell (p := ⟨n₀, 0, none⟩) (Nat.le_refl _) (.slice A1 (nt + 1) c1)
    generalize (W'.setCell ⟨n₀, 0, none⟩ (.slice A1 (nt + 1) c1)) = W2 at q1' q2' q3' q4' qk' qb' ⊢
    refine last_ (i := 9) (N := none) #[true, true, true, true, true, true, true, true, true, true] rfl rfl (by kernel_rfl) (by decide) (fun K hK => ?_)
    rw [if_pos (Ev.wanted rfl)]
    refine Ev.store rfl rfl f8 f61 (Ev.store35 q2') ?_
    refine hK.out _ _ ?_
    refine done_ (by kernel_rfl) ?_
    exact hQ _ _ _ _ _ _ (Ev.boxed_far q1' (show n₀ ≠ n₀ + 1 by omega) _) (Ev.boxed_set q2' _) (Ev.own_set q3' (Ev.own_ne q3' q2' (by decide)) _) (Ev.own_set q4' (Ev.own_ne q4' q2' (by decide)) _) (qk'.setCell (Or.inl (Or.inr (Or.inl rfl))) _) (qb'.setCell (Nat.le_succ _) _) qn
  -- the second append, behind all else
  have n3 : ∀ a' W' v1 b2, a'.tmps.size = 99 → a'.eval (.tmp 7) = .pointer (some ⟨n₀, 0, none⟩) → a'.eval (.tmp 8) = .pointer (some ⟨n₀ + 1, 0, none⟩) → a'.eval (.tmp 57) = v1 → a'.eval (.tmp 58) = .slice Ae ne ce → a'.eval (.tmp 60) = .slice (some ⟨b2, 0, none⟩) 1 1 → Boxed W' n₀ 25 (.slice At nt ct) → Boxed W' (n₀ + 1) 35 (.slice Ae ne ce) →
      W'.ownsRow n₀ 3 1 v1 (nt + 1) (xs ++ [.int .i64 y]) → W'.ownsRow n₀ 40 1 (.slice Ae ne ce) ne ps → W'.heap[b2]? = some (.cells #[.pointer p] 40 (0, 0)) → Kept W W' (fun k => k = n₀ ∨ k = n₀ + 1 ∨ some k = (Value.slice At nt ct).ownBlock ∨ some k = (Value.slice Ae ne ce).ownBlock) → Below n₀ W W' → (v1.ownBlock = (Value.slice At nt ct).ownBlock ∨ ∃ b, v1.ownBlock = some b ∧ W.heap.size ≤ b) →
      wpAnyLast Try.prog Region.Mode.any Rg.ops14 Q (fun w' => w'.cell? ⟨n₀, 0, none⟩ = some (.slice At nt ct) ∧ w'.cell? ⟨n₀ + 1, 0, none⟩ = some (.slice Ae ne ce)) [8, 9] 3 #[true, true, true, true, true, true, true, false, false, false] a' W' := by
    intro a' W' v1 b2 za f7 f8 f57 f58 f60 q1 q2 q3 q4 q5 qk qb qn
    refine one_ (i := 7) (N := some 61) #[true, true, true, true, true, true, true, true, false, false] rfl rfl (by kernel_rfl) (by decide) (fun K hK => ?_)
    rw [if_pos (Ev.wanted rfl)]
    refine Ev.append (.tmp 58) (.tmp 60) 35 40 (.pointer none) 8 rfl Try.underlying35 (by kernel_rfl) rfl n₀ _ ne ps f58 q4 b2 (.pointer p) f60 ((blk_cell q5 0).trans rfl) rfl (by unfold maxLen; omega) (by omega) (by have := q1.lt; omega) ?_
    intro v2 W2 o2 g2 hat2
    have r1 : some n₀ ≠ (Value.slice Ae ne ce).ownBlock := t3
    have p1 : Boxed W2 n₀ 25 (.slice At nt ct) := (g2.block _ q1.lt t3).trans q1
    have p2 : Boxed W2 (n₀ + 1) 35 (.slice Ae ne ce) := (g2.block _ q2.lt t4).trans q2
    have p3 : W2.ownsRow n₀ 3 1 v1 (nt + 1) (xs ++ [.int .i64 y]) := Ev.own_kept q3 g2 (fun k hk he => by
      rcases q4.2 with ⟨q, _⟩ | ⟨g, cap, cur, q, _, hg, _⟩
      · rw [q] at he; cases he
      · have hkg : some k = some g := by rw [q] at he; exact he
        injection hkg with hkg
        subst hkg
        exact Ev.own_ne q3 hg (by decide) hk.symm)
    have pk := qk.of_grown g2 (fun k hk => Or.inl (Or.inr (Or.inr (Or.inr hk.symm))))
    have pb : Below n₀ W W2 := qb.grown g2 (by have := q1.lt; omega) (fun k hk => (lE k hk).1)
    refine hK.out _ _ ⟨p1.cell, p2.cell⟩ (fun _ => ?_)
    refine fin _ _ v1 v2 (by rw [Ev.size]; exact za) ?_ ?_ ?_ ?_ p1 p2 p3 o2 pk pb qn
    · show (a'.put (some 61) v2).eval _ = _
      rw [Ev.other (by decide)]; exact f7
    · show (a'.put (some 61) v2).eval _ = _
      rw [Ev.other (by decide)]; exact f8
    · show (a'.put (some 61) v2).eval _ = _
      rw [Ev.other (by decide)]; exact f57
    · show (a'.put (some 61) v2).eval _ = _
      rw [Ev.same (by rw [za]; decide)]
  -- the first append, both one-cell rows made
  have n2 : ∀ a' W' b1 b2, a'.tmps.size = 99 → a'.eval (.tmp 7) = .pointer (some ⟨n₀, 0, none⟩) → a'.eval (.tmp 8) = .pointer (some ⟨n₀ + 1, 0, none⟩) → a'.eval (.tmp 54) = .slice At nt ct → a'.eval (.tmp 58) = .slice Ae ne ce → a'.eval (.tmp 56) = .slice (some ⟨b1, 0, none⟩) 1 1 → a'.eval (.tmp 60) = .slice (some ⟨b2, 0, none⟩) 1 1 → Boxed W' n₀ 25 (.slice At nt ct) → Boxed W' (n₀ + 1) 35 (.slice Ae ne ce) →
      W'.ownsRow n₀ 3 1 (.slice At nt ct) nt xs → W'.ownsRow n₀ 40 1 (.slice Ae ne ce) ne ps → W'.heap[b1]? = some (.cells #[.int .i64 y] 3 (0, 0)) → W'.heap[b2]? = some (.cells #[.pointer p] 40 (0, 0)) → Kept W W' (fun k => k = n₀ ∨ k = n₀ + 1 ∨ some k = (Value.slice At nt ct).ownBlock ∨ some k = (Value.slice Ae ne ce).ownBlock) → Below n₀ W W' →
      wpAnyLast Try.prog Region.Mode.any Rg.ops14 Q (fun w' => w'.cell? ⟨n₀, 0, none⟩ = some (.slice At nt ct) ∧ w'.cell? ⟨n₀ + 1, 0, none⟩ = some (.slice Ae ne ce)) [8, 9] 4 #[true, true, true, false, true, true, true, false, false, false] a' W' := by
    intro a' W' b1 b2 za f7 f8 f54 f58 f56 f60 q1 q2 q3 q4 q5 q6 qk qb
    refine one_ (i := 3) (N := some 57) #[true, true, true, true, true, true, true, false, false, false] rfl rfl (by kernel_rfl) (by decide) (fun K hK => ?_)
    rw [if_pos (Ev.wanted rfl)]
    refine Ev.append (.tmp 54) (.tmp 56) 25 3 (.int .i64 0) 8 rfl Try.underlying25 (by kernel_rfl) rfl n₀ _ nt xs f54 q3 b1 (.int .i64 y) f56 ((blk_cell q5 0).trans rfl) rfl (by unfold maxLen; omega) (by omega) (by have := q1.lt; omega) ?_
    intro v1 W2 o1 g1 hat1
    have p1 : Boxed W2 n₀ 25 (.slice At nt ct) := (g1.block _ q1.lt t1).trans q1
    have p2 : Boxed W2 (n₀ + 1) 35 (.slice Ae ne ce) := (g1.block _ q2.lt t2).trans q2
    have p4 : W2.ownsRow n₀ 40 1 (.slice Ae ne ce) ne ps := Ev.own_kept q4 g1 tTE
    have p6 : W2.heap[b2]? = some (.cells #[.pointer p] 40 (0, 0)) := (g1.block _ (Array.getElem?_eq_some_iff.1 q6).1 (Ev.own_ne q3 q6 (by decide))).trans q6
    have pk := qk.of_grown g1 (fun k hk => Or.inl (Or.inr (Or.inr (Or.inl hk.symm))))
    have pb : Below n₀ W W2 := qb.grown g1 (by have := q1.lt; omega) (fun k hk => (lT k hk).1)
    have pn : v1.ownBlock = (Value.slice At nt ct).ownBlock ∨ ∃ b, v1.ownBlock = some b ∧ W.heap.size ≤ b := hat1.imp (fun h => h) (fun h => ⟨_, h, qb.size⟩)
    refine hK.out _ _ ⟨p1.cell, p2.cell⟩ (fun _ => ?_)
    refine n3 _ _ v1 b2 (by rw [Ev.size]; exact za) ?_ ?_ ?_ ?_ ?_ p1 p2 o1 p4 p6 pk pb pn
    · show (a'.put (some 57) v1).eval _ = _
      rw [Ev.other (by decide)]; exact f7
    · show (a'.put (some 57) v1).eval _ = _
      rw [Ev.other (by decide)]; exact f8
    · show (a'.put (some 57) v1).eval _ = _
      rw [Ev.same (by rw [za]; decide)]
    · show (a'.put (some 57) v1).eval _ = _
      rw [Ev.other (by decide)]; exact f58
    · show (a'.put (some 57) v1).eval _ = _
      rw [Ev.other (by decide)]; exact f60
  refine two_ (i := 2) (j := 6) (Ni := some 56) (Nj := some 60) #[true, true, true, false, true, true, false, false, false, false] #[true, true, false, false, true, true, true, false, false, false] rfl rfl rfl rfl (by kernel_rfl) (by decide) (by decide) (fun K hK => ?_) (fun K hK => ?_)
  · rw [if_pos (Ev.wanted rfl)]
    refine Ev.made rfl (Ev.build25 rfl e55) ?_
    have q1 : Boxed (W0.alloc (.cells #[.int .i64 y] 3)) n₀ 25 (.slice At nt ct) := m1.alloc _
    have q2 : Boxed (W0.alloc (.cells #[.int .i64 y] 3)) (n₀ + 1) 35 (.slice Ae ne ce) := m2.alloc _
    have q3 := m3.alloc (.cells #[.int .i64 y] 3)
    have q4 := m4.alloc (.cells #[.int .i64 y] 3)
    have q5 : (W0.alloc (.cells #[.int .i64 y] 3)).heap[W0.heap.size]? = some (.cells #[.int .i64 y] 3 (0, 0)) := blk_new W0 _
    have qk := k0.alloc (.cells #[.int .i64 y] 3)
    have qb := b0.alloc (by have := m1.lt; omega) (.cells #[.int .i64 y] 3)
    refine hK.out _ _ ⟨q1.cell, q2.cell⟩ (fun _ => ?_)
    have lT' : ∀ k, (Value.slice At nt ct).ownBlock = some k → k < W0.heap.size := fun k hk => (lT k hk).2
    have zw : W0.heap.size < (W0.alloc (.cells #[.int .i64 y] 3)).heap.size := by rw [World.size_alloc]; omega
    generalize (W0.alloc (.cells #[.int .i64 y] 3)) = W1 at *
    obtain ⟨a2, ha2⟩ : ∃ a2, a2 = (a1.put (some 56) (Value.slice (some ⟨W0.heap.size, 0, none⟩) 1 1)) := ⟨_, rfl⟩
    have z2 : a2.tmps.size = 99 := by rw [ha2, Ev.size]; exact z1
    have f7 : a2.eval (.tmp 7) = .pointer (some ⟨n₀, 0, none⟩) := by rw [ha2, Ev.other (by decide)]; exact e7
    have f8 : a2.eval (.tmp 8) = .pointer (some ⟨n₀ + 1, 0, none⟩) := by rw [ha2, Ev.other (by decide)]; exact e8
    have f54 : a2.eval (.tmp 54) = .slice At nt ct := by rw [ha2, Ev.other (by decide)]; exact e54
    have f58 : a2.eval (.tmp 58) = .slice Ae ne ce := by rw [ha2, Ev.other (by decide)]; exact e58
    have f59 : a2.eval (.tmp 59) = .pointer p := by rw [ha2, Ev.other (by decide)]; exact e59
    have f56 : a2.eval (.tmp 56) = .slice (some ⟨W0.heap.size, 0, none⟩) 1 1 := by rw [ha2, Ev.same (by rw [z1]; decide)]
    refine norm_ (a' := a2) ha2.symm ?_
    clear ha2 hK K
    refine two_ (i := 3) (j := 6) (Ni := some 57) (Nj := some 60) #[true, true, true, true, true, true, false, false, false, false] #[true, true, true, false, true, true, true, false, false, false] rfl rfl rfl rfl (by kernel_rfl) (by decide) (by decide) (fun K hK => ?_) (fun K hK => ?_)
    · rw [if_pos (Ev.wanted rfl)]
      refine Ev.append (.tmp 54) (.tmp 56) 25 3 (.int .i64 0) 8 rfl Try.underlying25 (by kernel_rfl) rfl n₀ _ nt xs f54 q3 W0.heap.size (.int .i64 y) f56 ((blk_cell q5 0).trans rfl) rfl (by unfold maxLen; omega) (by omega) (by have := q1.lt; omega) ?_
      intro v1 W2 o1 g1 hat1
      have p1 : Boxed W2 n₀ 25 (.slice At nt ct) := (g1.block _ q1.lt t1).trans q1
      have p2 : Boxed W2 (n₀ + 1) 35 (.slice Ae ne ce) := (g1.block _ q2.lt t2).trans q2
      have p4 : W2.ownsRow n₀ 40 1 (.slice Ae ne ce) ne ps := Ev.own_kept q4 g1 tTE
      have pk := qk.of_grown g1 (fun k hk => Or.inl (Or.inr (Or.inr (Or.inl hk.symm))))
      have pb : Below n₀ W W2 := qb.grown g1 (by have := q1.lt; omega) (fun k hk => (lT k hk).1)
      have pn : v1.ownBlock = (Value.slice At nt ct).ownBlock ∨ ∃ b, v1.ownBlock = some b ∧ W.heap.size ≤ b := hat1.imp (fun h => h) (fun h => ⟨_, h, qb.size⟩)
      refine hK.out _ _ ⟨p1.cell, p2.cell⟩ (fun _ => ?_)
      obtain ⟨a3, ha3⟩ : ∃ a3, a3 = (a2.put (some 57) v1) := ⟨_, rfl⟩
      have z3 : a3.tmps.size = 99 := by rw [ha3, Ev.size]; exact z2
      have h7 : a3.eval (.tmp 7) = .pointer (some ⟨n₀, 0, none⟩) := by rw [ha3, Ev.other (by decide)]; exact f7
      have h8 : a3.eval (.tmp 8) = .pointer (some ⟨n₀ + 1, 0, none⟩) := by rw [ha3, Ev.other (by decide)]; exact f8
      have h57 : a3.eval (.tmp 57) = v1 := by rw [ha3, Ev.same (by rw [z2]; decide)]
      have h58 : a3.eval (.tmp 58) = .slice Ae ne ce := by rw [ha3, Ev.other (by decide)]; exact f58
      have h59 : a3.eval (.tmp 59) = .pointer p := by rw [ha3, Ev.other (by decide)]; exact f59
      refine norm_ (a' := a3) ha3.symm ?_
      clear ha3 hK K
      refine one_ (i := 6) (N := some 60) #[true, true, true, true, true, true, true, false, false, false] rfl rfl (by kernel_rfl) (by decide) (fun K hK => ?_)
      rw [if_pos (Ev.wanted rfl)]
      refine Ev.made rfl (Ev.build35 rfl h59) ?_
      have p1' : Boxed (W2.alloc (.cells #[.pointer p] 40)) n₀ 25 (.slice At nt ct) := p1.alloc _
      have p2' : Boxed (W2.alloc (.cells #[.pointer p] 40)) (n₀ + 1) 35 (.slice Ae ne ce) := p2.alloc _
      refine hK.out _ _ ⟨p1'.cell, p2'.cell⟩ (fun _ => ?_)
      refine n3 _ _ v1 W2.heap.size (by rw [Ev.size]; exact z3) ?_ ?_ ?_ ?_ ?_ p1' p2' (o1.alloc _) (p4.alloc _) (blk_new W2 _) (pk.alloc _) (pb.alloc (by have := p1.lt; omega) _) pn
      · show (a3.put (some 60) _).eval _ = _
        rw [Ev.other (by decide)]; exact h7
      · show (a3.put (some 60) _).eval _ = _
        rw [Ev.other (by decide)]; exact h8
      · show (a3.put (some 60) _).eval _ = _
        rw [Ev.other (by decide)]; exact h57
      · show (a3.put (some 60) _).eval _ = _
        rw [Ev.other (by decide)]; exact h58
      · show (a3.put (some 60) _).eval _ = _
        rw [Ev.same (by rw [z3]; decide)]
    · rw [if_pos (Ev.wanted rfl)]
      refine Ev.made rfl (Ev.build35 rfl f59) ?_
      have p1' : Boxed (W1.alloc (.cells #[.pointer p] 40)) n₀ 25 (.slice At nt ct) := q1.alloc _
      have p2' : Boxed (W1.alloc (.cells #[.pointer p] 40)) (n₀ + 1) 35 (.slice Ae ne ce) := q2.alloc _
      refine hK.out _ _ ⟨p1'.cell, p2'.cell⟩ (fun _ => ?_)
      refine n2 _ _ W0.heap.size W1.heap.size (by rw [Ev.size]; exact z2) ?_ ?_ ?_ ?_ ?_ ?_ p1' p2' (q3.alloc _) (q4.alloc _) (blk_alloc q5 _) (blk_new W1 _) (qk.alloc _) (qb.alloc (by have := q1.lt; omega) _)
      · show (a2.put (some 60) _).eval _ = _
        rw [Ev.other (by decide)]; exact f7
      · show (a2.put (some 60) _).eval _ = _
        rw [Ev.other (by decide)]; exact f8
      · show (a2.put (some 60) _).eval _ = _
        rw [Ev.other (by decide)]; exact f54
      · show (a2.put (some 60) _).eval _ = _
        rw [Ev.other (by decide)]; exact f58
      · show (a2.put (some 60) _).eval _ = _
        rw [Ev.other (by decide)]; exact f56
      · show (a2.put (some 60) _).eval _ = _
        rw [Ev.same (by rw [z2]; decide)]
  · rw [if_pos (Ev.wanted rfl)]
    refine Ev.made rfl (Ev.build35 rfl e59) ?_
    have q1 : Boxed (W0.alloc (.cells #[.pointer p] 40)) n₀ 25 (.slice At nt ct) := m1.alloc _
    have q2 : Boxed (W0.alloc (.cells #[.pointer p] 40)) (n₀ + 1) 35 (.slice Ae ne ce) := m2.alloc _
    have q3 := m3.alloc (.cells #[.pointer p] 40)
    have q4 := m4.alloc (.cells #[.pointer p] 40)
    have q5 : (W0.alloc (.cells #[.pointer p] 40)).heap[W0.heap.size]? = some (.cells #[.pointer p] 40 (0, 0)) := blk_new W0 _
    have qk := k0.alloc (.cells #[.pointer p] 40)
    have qb := b0.alloc (by have := m1.lt; omega) (.cells #[.pointer p] 40)
    refine hK.out _ _ ⟨q1.cell, q2.cell⟩ (fun _ => ?_)
    generalize (W0.alloc (.cells #[.pointer p] 40)) = W1 at *
    obtain ⟨a2, ha2⟩ : ∃ a2, a2 = (a1.put (some 60) (Value.slice (some ⟨W0.heap.size, 0, none⟩) 1 1)) := ⟨_, rfl⟩
    have z2 : a2.tmps.size = 99 := by rw [ha2, Ev.size]; exact z1
    have f7 : a2.eval (.tmp 7) = .pointer (some ⟨n₀, 0, none⟩) := by rw [ha2, Ev.other (by decide)]; exact e7
    have f8 : a2.eval (.tmp 8) = .pointer (some ⟨n₀ + 1, 0, none⟩) := by rw [ha2, Ev.other (by decide)]; exact e8
    have f54 : a2.eval (.tmp 54) = .slice At nt ct := by rw [ha2, Ev.other (by decide)]; exact e54
    have f55 : a2.eval (.tmp 55) = .int .i64 y := by rw [ha2, Ev.other (by decide)]; exact e55
    have f58 : a2.eval (.tmp 58) = .slice Ae ne ce := by rw [ha2, Ev.other (by decide)]; exact e58
    have f60 : a2.eval (.tmp 60) = .slice (some ⟨W0.heap.size, 0, none⟩) 1 1 := by rw [ha2, Ev.same (by rw [z1]; decide)]
    refine norm_ (a' := a2) ha2.symm ?_
    clear ha2 hK K
    refine one_ (i := 2) (N := some 56) #[true, true, true, false, true, true, true, false, false, false] rfl rfl (by kernel_rfl) (by decide) (fun K hK => ?_)
    rw [if_pos (Ev.wanted rfl)]
    refine Ev.made rfl (Ev.build25 rfl f55) ?_
    have p1' : Boxed (W1.alloc (.cells #[.int .i64 y] 3)) n₀ 25 (.slice At nt ct) := q1.alloc _
    have p2' : Boxed (W1.alloc (.cells #[.int .i64 y] 3)) (n₀ + 1) 35 (.slice Ae ne ce) := q2.alloc _
    refine hK.out _ _ ⟨p1'.cell, p2'.cell⟩ (fun _ => ?_)
    refine n2 _ _ W1.heap.size W0.heap.size (by rw [Ev.size]; exact z2) ?_ ?_ ?_ ?_ ?_ ?_ p1' p2' (q3.alloc _) (q4.alloc _) (blk_new W1 _) (blk_alloc q5 _) (qk.alloc _) (qb.alloc (by have := q1.lt; omega) _)
    · show (a2.put (some 56) _).eval _ = _
      rw [Ev.other (by decide)]; exact f7
    · show (a2.put (some 56) _).eval _ = _
      rw [Ev.other (by decide)]; exact f8
    · show (a2.put (some 56) _).eval _ = _
      rw [Ev.other (by decide)]; exact f54
    · show (a2.put (some 56) _).eval _ = _
      rw [Ev.other (by decide)]; exact f58
    · show (a2.put (some 56) _).eval _ = _
      rw [Ev.same (by rw [z2]; decide)]
    · show (a2.put (some 56) _).eval _ = _
      rw [Ev.other (by decide)]; exact f60
theorem Ev.store3 {W : World} {p : Addr} {x : Int} {u : Value} (hc : W.cell? p = some u) (hf : W.frozen? p = false) : (Instr.storeAt 3 (.pointer (some p)) (.int .i64 x)).run Try.prog W = .ok () (W.setCell p (.int .i64 x)) := by
  go_simp
theorem Ev.store40 {W : World} {p : Addr} {x : Option Addr} {u : Value} (hc : W.cell? p = some u) (hf : W.frozen? p = false) : (Instr.storeAt 40 (.pointer (some p)) (.pointer x)).run Try.prog W = .ok () (W.setCell p (.pointer x)) := by
  go_simp
theorem Ev.index25 {ops : Array Oper} {a : Act} {o : Oper} {s x : Operand} {g n c v : Nat} (ho : o.op = .indexAddr 25 s x) (hg : o.guard = none) (hs : a.eval s = .slice (some ⟨g, 0, none⟩) n c) (hx : a.eval x = .int .i64 (v : Int)) (hv : v < n) : Yields Try.prog ops o (.pointer (some ⟨g, v, none⟩)) a := by
  refine Or.inl ⟨by unfold Region.wanted; rw [hg], fun w => ?_⟩
  unfold execOp
  rw [ho]
  generalize a.eval = ev at hs hx ⊢
  go_simp
theorem Ev.index35 {ops : Array Oper} {a : Act} {o : Oper} {s x : Operand} {g n c v : Nat} (ho : o.op = .indexAddr 35 s x) (hg : o.guard = none) (hs : a.eval s = .slice (some ⟨g, 0, none⟩) n c) (hx : a.eval x = .int .i64 (v : Int)) (hv : v < n) : Yields Try.prog ops o (.pointer (some ⟨g, v, none⟩)) a := by
  refine Or.inl ⟨by unfold Region.wanted; rw [hg], fun w => ?_⟩
  unfold execOp
  rw [ho]
  generalize a.eval = ev at hs hx ⊢
  go_simp
theorem Ev.own_some {W : World} {base : Nat} {e : TypeId} {A : Option Addr} {n c : Nat} {xs : List Value} (h : W.ownsRow base e 1 (.slice A n c) n xs) (hn : 0 < n) : ∃ g, A = some ⟨g, 0, none⟩ ∧ base ≤ g ∧ xs.length = n := by
  rcases h.2 with ⟨q, h0⟩ | ⟨g, cap, cur, q, hb, hg, _⟩
  · omega
  · injection q with q1 q2 q3
    exact ⟨g, q1, hb, by have := h.1; omega⟩
theorem Ev.own_cell {W : World} {base : Nat} {e : TypeId} {g n c v : Nat} {xs : List Value} (h : W.ownsRow base e 1 (.slice (some ⟨g, 0, none⟩) n c) n xs) (hv : v < n) : (∃ u, W.cell? ⟨g, v, none⟩ = some u) ∧ W.frozen? ⟨g, v, none⟩ = false := by
  have hl : xs.length = n := by have := h.1; omega
  refine ⟨⟨xs[v], ?_⟩, ?_⟩
  · have := h.cells (g := g) rfl v _ (List.getElem?_eq_getElem (by omega))
    rwa [add_plain] at this
  · rcases h.2 with ⟨q, h0⟩ | ⟨g', cap, cur, q, hb, hg, _⟩
    · cases q
    · injection q with q1 q2 q3
      injection q1 with q1
      injection q1 with q1
      subst q1
      simp [World.frozen?, hg]
set_option maxHeartbeats 4000000 in
set_option maxRecDepth 100000 in
theorem Rg.r15 {l n id : Nat} {Q : Exit → Act → World → Prop} {a : Act} {W : World} {n₀ v : Nat} {y : Int} {p : Option Addr} {At Ae : Option Addr} {nt ct ne ce : Nat} {xs ps : List Value}
    (hL : ¬ LetsOut Q) (hP : ∀ c a a' w, Q (.panic c) a w → Q (.panic c) a' w) (hsz : a.tmps.size = 99) (h7 : a.eval (.tmp 7) = .pointer (some ⟨n₀, 0, none⟩)) (h8 : a.eval (.tmp 8) = .pointer (some ⟨n₀ + 1, 0, none⟩)) (h12 : a.eval (.tmp 12) = .int .i64 y) (h13 : a.eval (.tmp 13) = .int .i64 (v : Int)) (h14 : a.eval (.tmp 14) = .pointer p)
    (m1 : Boxed W n₀ 25 (.slice At nt ct)) (m2 : Boxed W (n₀ + 1) 35 (.slice Ae ne ce)) (m3 : W.ownsRow n₀ 3 1 (.slice At nt ct) nt xs) (m4 : W.ownsRow n₀ 40 1 (.slice Ae ne ce) ne ps) (ht : v < nt) (he : v < ne)
    (hQ : ∀ a' W', Boxed W' n₀ 25 (.slice At nt ct) → Boxed W' (n₀ + 1) 35 (.slice Ae ne ce) → W'.ownsRow n₀ 3 1 (.slice At nt ct) nt (xs.set v (.int .i64 y)) → W'.ownsRow n₀ 40 1 (.slice Ae ne ce) ne (ps.set v (.pointer p)) →
      Kept W W' (fun k => k = n₀ ∨ k = n₀ + 1 ∨ some k = (Value.slice At nt ct).ownBlock ∨ some k = (Value.slice Ae ne ce).ownBlock) → Below n₀ W W' → Q .normal a' W') :
    (Code.region id Rg.ops15 true).wpIn (Fence.wide.inRound l) n Try.prog Q a W := by
  refine Rr.start (S := (fun w' => w'.cell? ⟨n₀, 0, none⟩ = some (.slice At nt ct) ∧ w'.cell? ⟨n₀ + 1, 0, none⟩ = some (.slice Ae ne ce))) (ds := []) #[false, false, false, false, false, false, false, false, false, false] (by kernel_rfl) Rg.size15 rfl Rg.plain15 hL ⟨m1.cell, m2.cell⟩ (fun hHeld => ?_)
  have k0 : Kept W W.drew (fun k => k = n₀ ∨ k = n₀ + 1 ∨ some k = (Value.slice At nt ct).ownBlock ∨ some k = (Value.slice Ae ne ce).ownBlock) := Kept.refl W _
  have b0 : Below n₀ W W.drew := below_drew1 (Below.refl _ _)
  have m1 : Boxed W.drew n₀ 25 (.slice At nt ct) := m1
  have m2 : Boxed W.drew (n₀ + 1) 35 (.slice Ae ne ce) := m2
  have m3 : W.drew.ownsRow n₀ 3 1 (.slice At nt ct) nt xs := m3
  have m4 : W.drew.ownsRow n₀ 40 1 (.slice Ae ne ce) ne ps := m4
  generalize W.drew = W0 at *
  obtain ⟨gt, rfl, hgt, lxs⟩ := Ev.own_some m3 (by omega)
  obtain ⟨ge, rfl, hge, lps⟩ := Ev.own_some m4 (by omega)
  refine pure_ (i := 1) (N := some 63) (v := .int .i64 (v : Int)) #[false, true, false, false, false, false, false, false, false, false] rfl rfl (by kernel_rfl) (fun c _ _ h => hP c _ _ _ h) (Ev.move rfl rfl h13) rfl ?_
  refine pure_ (i := 3) (N := some 65) (v := .int .i64 (v : Int)) #[false, true, false, true, false, false, false, false, false, false] rfl rfl (by kernel_rfl) (fun c _ _ h => hP c _ _ _ h) (Ev.move rfl rfl (by rw [Ev.other (by decide)]; exact h13)) rfl ?_
  refine pure_ (i := 4) (N := some 66) (v := .int .i64 y) #[false, true, false, true, true, false, false, false, false, false] rfl rfl (by kernel_rfl) (fun c _ _ h => hP c _ _ _ h) (Ev.move rfl rfl (by rw [Ev.other (by decide), Ev.other (by decide)]; exact h12)) rfl ?_
  refine pure_ (i := 5) (N := some 67) (v := .pointer p) #[false, true, false, true, true, true, false, false, false, false] rfl rfl (by kernel_rfl) (fun c _ _ h => hP c _ _ _ h) (Ev.move rfl rfl (by rw [Ev.other (by decide), Ev.other (by decide), Ev.other (by decide)]; exact h14)) rfl ?_
  refine take_ (i := 0) (N := some 62) (v := .slice (some ⟨gt, 0, none⟩) nt ct) #[true, true, false, true, true, true, false, false, false, false] rfl rfl (by kernel_rfl) (fun c _ _ h => hP c _ _ _ h) (Ev.load rfl rfl (by rw [Ev.other (by decide), Ev.other (by decide), Ev.other (by decide), Ev.other (by decide)]; exact h7) (fun w hw => Ev.load25 hw.1)) hHeld rfl ?_
  refine take_ (i := 2) (N := some 64) (v := .slice (some ⟨ge, 0, none⟩) ne ce) #[true, true, true, true, true, true, false, false, false, false] rfl rfl (by kernel_rfl) (fun c _ _ h => hP c _ _ _ h) (Ev.load rfl rfl (by rw [Ev.other (by decide), Ev.other (by decide), Ev.other (by decide), Ev.other (by decide), Ev.other (by decide)]; exact h8) (fun w hw => Ev.load35 hw.2)) hHeld rfl ?_
  obtain ⟨a1, ha1⟩ : ∃ a1, a1 = ((((((a.put (some 63) (Value.int .i64 (v : Int))).put (some 65) (Value.int .i64 (v : Int))).put (some 66) (Value.int .i64 y)).put (some 67) (Value.pointer p)).put (some 62) (Value.slice (some ⟨gt, 0, none⟩) nt ct)).put (some 64) (Value.slice (some ⟨ge, 0, none⟩) ne ce)) := ⟨_, rfl⟩
  have z1 : a1.tmps.size = 99 := by rw [ha1]; simp only [Ev.size]; exact hsz
  have e62 : a1.eval (.tmp 62) = .slice (some ⟨gt, 0, none⟩) nt ct := by rw [ha1, Ev.other (by decide), Ev.same (by simp only [Ev.size, hsz]; decide)]
  have e64 : a1.eval (.tmp 64) = .slice (some ⟨ge, 0, none⟩) ne ce := by rw [ha1, Ev.same (by simp only [Ev.size, hsz]; decide)]
  have e67 : a1.eval (.tmp 67) = .pointer p := by rw [ha1, Ev.other (by decide), Ev.other (by decide), Ev.same (by simp only [Ev.size, hsz]; decide)]
  have e66 : a1.eval (.tmp 66) = .int .i64 y := by rw [ha1, Ev.other (by decide), Ev.other (by decide), Ev.other (by decide), Ev.same (by simp only [Ev.size, hsz]; decide)]
  have e65 : a1.eval (.tmp 65) = .int .i64 (v : Int) := by rw [ha1, Ev.other (by decide), Ev.other (by decide), Ev.other (by decide), Ev.other (by decide), Ev.same (by simp only [Ev.size, hsz]; decide)]
  have e63 : a1.eval (.tmp 63) = .int .i64 (v : Int) := by rw [ha1, Ev.other (by decide), Ev.other (by decide), Ev.other (by decide), Ev.other (by decide), Ev.other (by decide), Ev.same (by simp only [Ev.size, hsz]; decide)]
  refine norm_ (a' := a1) ha1.symm ?_
  clear ha1
  have t1 : n₀ ≠ gt := fun e => Ev.own_ne m3 m1 (by decide) (by rw [e]; rfl)
  have t2 : n₀ + 1 ≠ gt := fun e => Ev.own_ne m3 m2 (by decide) (by rw [e]; rfl)
  have t3 : n₀ ≠ ge := fun e => Ev.own_ne m4 m1 (by decide) (by rw [e]; rfl)
  have t4 : n₀ + 1 ≠ ge := fun e => Ev.own_ne m4 m2 (by decide) (by rw [e]; rfl)
  have t5 : ge ≠ gt := fun e => by
    rcases m4.2 with ⟨q, _⟩ | ⟨g, cap, cur, q, _, hg, _⟩
    · cases q
    · injection q with q1 q2 q3
      injection q1 with q1
      injection q1 with q1
      exact Ev.own_ne m3 hg (by decide) (by rw [← q1, e]; rfl)
  refine pure_ (i := 6) (N := some 68) (v := .pointer (some ⟨gt, v, none⟩)) #[true, true, true, true, true, true, true, false, false, false] rfl rfl (by kernel_rfl) (fun c _ _ h => hP c _ _ _ h) (Ev.index25 rfl rfl e62 e63 ht) rfl ?_
  refine one_ (i := 7) (N := none) #[true, true, true, true, true, true, true, true, false, false] rfl rfl (by kernel_rfl) (by decide) (fun K hK => ?_)
  rw [if_pos (Ev.wanted rfl)]
  obtain ⟨⟨u1, hu1⟩, hf1⟩ := Ev.own_cell m3 ht
  refine Ev.store rfl rfl (Ev.same (by rw [z1]; decide)) (by rw [Ev.other (by decide)]; exact e66) (Ev.store3 hu1 hf1) ?_
  have s3 := m3.stored v (.int .i64 y)
  have p1 : Boxed (W0.setCell ⟨gt, v, none⟩ (.int .i64 y)) n₀ 25 (.slice (some ⟨gt, 0, none⟩) nt ct) := blk_far m1 t1 _
  have p2 : Boxed (W0.setCell ⟨gt, v, none⟩ (.int .i64 y)) (n₀ + 1) 35 (.slice (some ⟨ge, 0, none⟩) ne ce) := blk_far m2 t2 _
  have p3 := s3.1
  have p4 : (W0.setCell ⟨gt, v, none⟩ (.int .i64 y)).ownsRow n₀ 40 1 (.slice (some ⟨ge, 0, none⟩) ne ce) ne ps := Ev.own_kept m4 s3.2 (fun k hk he => by
    have h1 : some ge = some k := hk
    injection h1 with h1
    injection he with he
    omega)
  have pk := k0.setCell (p := ⟨gt, v, none⟩) (Or.inl (Or.inr (Or.inr (Or.inl rfl)))) (.int .i64 y)
  have pb := b0.setCell (p := ⟨gt, v, none⟩) hgt (.int .i64 y)
  refine hK.out _ _ ⟨p1.cell, p2.cell⟩ (fun _ => ?_)
  generalize (W0.setCell ⟨gt, v, none⟩ (.int .i64 y)) = W1 at p1 p2 p3 p4 pk pb ⊢
  clear hK K
  refine pure_ (i := 8) (N := some 69) (v := .pointer (some ⟨ge, v, none⟩)) #[true, true, true, true, true, true, true, true, true, false] rfl rfl (by kernel_rfl) (fun c _ _ h => hP c _ _ _ h) (Ev.index35 rfl rfl (by rw [Ev.other (by decide)]; exact e64) (by rw [Ev.other (by decide)]; exact e65) he) rfl ?_
  refine one_ (i := 9) (N := none) #[true, true, true, true, true, true, true, true, true, true] rfl rfl (by kernel_rfl) (by decide) (fun K hK => ?_)
  rw [if_pos (Ev.wanted rfl)]
  obtain ⟨⟨u2, hu2⟩, hf2⟩ := Ev.own_cell p4 he
  refine Ev.store rfl rfl (Ev.same (by rw [Ev.size, z1]; decide)) (by rw [Ev.other (by decide), Ev.other (by decide)]; exact e67) (Ev.store40 hu2 hf2) ?_
  have s4 := p4.stored v (.pointer p)
  have r1 : Boxed (W1.setCell ⟨ge, v, none⟩ (.pointer p)) n₀ 25 (.slice (some ⟨gt, 0, none⟩) nt ct) := blk_far p1 t3 _
  have r2 : Boxed (W1.setCell ⟨ge, v, none⟩ (.pointer p)) (n₀ + 1) 35 (.slice (some ⟨ge, 0, none⟩) ne ce) := blk_far p2 t4 _
  refine hK.out _ _ ⟨r1.cell, r2.cell⟩ (fun _ => ?_)
  refine done_ (by kernel_rfl) ?_
  refine hQ _ _ r1 r2 (Ev.own_kept p3 s4.2 (fun k hk he => by
    have h1 : some gt = some k := hk
    injection h1 with h1
    injection he with he
    omega)) s4.1 (pk.setCell (p := ⟨ge, v, none⟩) (Or.inl (Or.inr (Or.inr (Or.inr rfl)))) _) (pb.setCell (p := ⟨ge, v, none⟩) hge _)
section
variable {l n : Nat} {P : Program} {ops : Array Oper} {rest : List Oper} {o : Oper} {a : Act} {W W' : World} {Q : Exit → Act → World → Prop}
theorem Ev.op {K : Act → World → Prop} (hp : Rr.plain o = true) (h : o.wp P a W K Q) : o.wpIn (Fence.wide.inRound l) n P a W K Q := by
  refine ⟨fun _ _ => trivial, ?_⟩
  show o.uponIn (Fence.wide.inRound l) n P a _ Q ((o.semAt (some l) a.eval).run P W)
  rw [Oper.semAt_some l _ _ (Rr.plain_ne hp)]
  exact Rr.upon h
/-- One operation that yields a value. -/
theorem Ev.v {N : Tmp} {v : Value} (hr : (execOp a.eval o).run P W = .ok (.value v) W') (hg : o.guard = none) (hp : Rr.plain o = true) (hd : o.dst = some N) (h : wpListIn (Fence.wide.inRound l) n P ops Q rest (a.put (some N) v) W') : wpListIn (Fence.wide.inRound l) n P ops Q (o :: rest) a W :=
  wpListIn_plain hg fun K hK => Ev.op hp (Ev.made hd hr (hK _ _ h))
/-- One operation that yields none. -/
theorem Ev.k (hr : (execOp a.eval o).run P W = .ok .skip W') (hg : o.guard = none) (hp : Rr.plain o = true) (hd : o.dst = none) (h : wpListIn (Fence.wide.inRound l) n P ops Q rest a W') : wpListIn (Fence.wide.inRound l) n P ops Q (o :: rest) a W := by
  refine wpListIn_plain hg fun K hK => Ev.op hp ?_
  unfold Oper.wp
  rw [hr]
  show K (a.put o.dst undef) W'
  rw [hd]; exact hK _ _ h
theorem Ev.c {N : Tmp} {f : FuncId} {args : Array Value} (hr : (execOp a.eval o).run P W = .ok (.enter f args) W) (hg : o.guard = none) (hp : Rr.plain o = true) (hd : o.dst = some N) (hc : Calls P f args W (fun e w' => ∃ v, e = .returned v ∧ wpListIn (Fence.wide.inRound l) n P ops Q rest (a.put (some N) v) w')) : wpListIn (Fence.wide.inRound l) n P ops Q (o :: rest) a W := by
  refine wpListIn_plain hg fun K hK => Ev.op hp ?_
  unfold Oper.wp
  rw [hr, Oper.upon_enter]
  refine hc.mono ?_
  rintro e w' ⟨v, rfl, h⟩
  show K (a.put o.dst v) w'
  rw [hd]; exact hK _ _ h
end
noncomputable def Rg.ops (k : Nat) : Array Oper := (Try.f8.body.bind fun c => opsIn c k).getD #[]
/-- An act that kept the slots below 32 but for one. -/
def Ev.Keep (a a' : Act) (N : Nat) : Prop := a'.tmps.size = a.tmps.size ∧ ∀ M, M < 32 → M ≠ N → a'.eval (.tmp M) = a.eval (.tmp M)
theorem Ev.Keep.refl (a : Act) (N : Nat) : Ev.Keep a a N := ⟨rfl, fun _ _ _ => rfl⟩
theorem Ev.Keep.put {a a' : Act} {N T : Nat} (h : Ev.Keep a a' N) (hT : 32 ≤ T ∨ T = N) (v : Value) : Ev.Keep a (a'.put (some T) v) N :=
  ⟨by rw [Ev.size]; exact h.1, fun M h1 h2 => by rw [Ev.other (by omega)]; exact h.2 M h1 h2⟩
theorem Rg.r9 {l n id : Nat} {Q : Exit → Act → World → Prop} {a : Act} {W : World} {n₀ v : Nat} {y : Int} {At : Option Addr} {ct : Nat} {ts : List Int}
    (hsz : a.tmps.size = 99) (h7 : a.eval (.tmp 7) = .pointer (some ⟨n₀, 0, none⟩)) (h12 : a.eval (.tmp 12) = .int .i64 y) (m1 : Boxed W n₀ 25 (.slice At ts.length ct)) (hC : Kd.C (Kd.int .i64) W At ts.length ts) (hc : ts.length ≤ ct) (hF : thresh_Find.f (ts.length + 1) ts y = some (v : Int))
    (hQ : ∀ a' nd, Ev.Keep a a' 13 → a'.eval (.tmp 13) = .int .i64 (v : Int) → Q .normal a' (W.drewN nd)) : (Code.region id (Rg.ops 9) false).wpIn (Fence.wide.inRound l) n Try.prog Q a W := by
  refine wpIn_region_list ?_
  show wpListIn _ _ _ _ _ (_ :: _ :: _ :: _ :: []) _ _
  refine Ev.v (N := 32) (v := .slice At ts.length ct) (W' := W) ?_ rfl rfl rfl ?_
  · have hc := m1.cell
    unfold execOp
    generalize a.eval = ev at *
    go_simp
  refine Ev.v (N := 33) (v := .int .i64 y) (W' := W) ?_ rfl rfl rfl ?_
  · have e12 : (a.put (some 32) (Value.slice At ts.length ct)).eval (.tmp 12) = .int .i64 y := by rw [Ev.other (by decide)]; exact h12
    unfold execOp
    generalize (a.put (some 32) (Value.slice At ts.length ct)).eval = ev at *
    go_simp
  have e32 : ((a.put (some 32) (Value.slice At ts.length ct)).put (some 33) (Value.int .i64 y)).eval (.tmp 32) = .slice At ts.length ct := by rw [Ev.other (by decide), Ev.same (by rw [hsz]; decide)]
  have e33 : ((a.put (some 32) (Value.slice At ts.length ct)).put (some 33) (Value.int .i64 y)).eval (.tmp 33) = .int .i64 y := by rw [Ev.same (by rw [Ev.size, hsz]; decide)]
  have k33 : Ev.Keep a ((a.put (some 32) (Value.slice At ts.length ct)).put (some 33) (Value.int .i64 y)) 13 := ((Ev.Keep.refl a 13).put (Or.inl (by decide)) _).put (Or.inl (by decide)) _
  generalize ((a.put (some 32) (Value.slice At ts.length ct)).put (some 33) (Value.int .i64 y)) = a2 at *
  refine Ev.c (N := 34) (f := 20) (args := #[.slice At ts.length ct, .int .i64 y]) ?_ rfl rfl rfl ((thresh_Find.calls (ts.length + 1) At ct ts y v _ hC hc hF).mono ?_)
  · have ef : a2.eval (.func 20) = .func (.func 20) #[] #[] := rfl
    unfold execOp
    generalize a2.eval = ev at *
    go_simp
  rintro e w' ⟨rfl, nd, rfl⟩
  refine ⟨_, rfl, ?_⟩
  refine Ev.v (N := 13) (v := .int .i64 (v : Int)) (W' := W.drewN nd) ?_ rfl rfl rfl ?_
  · have e34 : (a2.put (some 34) (.int .i64 (v : Int))).eval (.tmp 34) = .int .i64 (v : Int) := by rw [Ev.same (by rw [k33.1, hsz]; decide)]
    unfold execOp
    generalize (a2.put (some 34) (.int .i64 (v : Int))).eval = ev at *
    go_simp
  exact hQ _ _ ((k33.put (Or.inl (by decide)) _).put (Or.inr rfl) _) (by rw [Ev.same (by rw [Ev.size, k33.1, hsz]; decide)])
theorem Rg.r10 {l n id : Nat} {Q : Exit → Act → World → Prop} {a : Act} {W : World} {B i : Nat} {y : Int}
    (hsz : a.tmps.size = 99) (h9 : a.eval (.tmp 9) = .pointer (some ⟨B, 0, none⟩)) (h12 : a.eval (.tmp 12) = .int .i64 y) (m : Boxed W B 3 (.int .i64 (i : Int)))
    (hQ : ∀ a', Ev.Keep a a' 14 → a'.eval (.tmp 14) = .pointer (some ⟨W.heap.size, 0, none⟩) → Q .normal a' (W.alloc (.cells #[.int .i64 (i : Int), .int .i64 y, .pointer none] 44))) : (Code.region id (Rg.ops 10) false).wpIn (Fence.wide.inRound l) n Try.prog Q a W := by
  refine wpIn_region_list ?_
  show wpListIn _ _ _ _ _ (_ :: _ :: _ :: _ :: _ :: _ :: []) _ _
  have k0 : Ev.Keep a a 14 := Ev.Keep.refl a 14
  have hc := m.cell
  refine Ev.v (N := 35) (v := .int .i64 (i : Int)) (W' := W) ?_ rfl rfl rfl ?_
  · unfold execOp
    generalize a.eval = ev at *
    go_simp
  obtain ⟨a1, ha1⟩ : ∃ x, x = a.put (some 35) (.int .i64 (i : Int)) := ⟨_, rfl⟩
  have k1 : Ev.Keep a a1 14 := by rw [ha1]; exact k0.put (Or.inl (by decide)) _
  have e1_9 : a1.eval (.tmp 9) = .pointer (some ⟨B, 0, none⟩) := by rw [ha1, Ev.other (by decide)]; exact h9
  have e1_12 : a1.eval (.tmp 12) = .int .i64 y := by rw [ha1, Ev.other (by decide)]; exact h12
  have e1_35 : a1.eval (.tmp 35) = .int .i64 (i : Int) := by rw [ha1, Ev.same (by rw [k0.1, hsz]; decide)]
  rw [← ha1]
  clear ha1 
  clear e1_9
  clear hc
  refine Ev.v (N := 36) (v := .int .i64 y) (W' := W) ?_ rfl rfl rfl ?_
  · unfold execOp
    generalize a1.eval = ev at *
    go_simp
  obtain ⟨a2, ha2⟩ : ∃ x, x = a1.put (some 36) (.int .i64 y) := ⟨_, rfl⟩
  have k2 : Ev.Keep a a2 14 := by rw [ha2]; exact k1.put (Or.inl (by decide)) _
  have e2_12 : a2.eval (.tmp 12) = .int .i64 y := by rw [ha2, Ev.other (by decide)]; exact e1_12
  have e2_35 : a2.eval (.tmp 35) = .int .i64 (i : Int) := by rw [ha2, Ev.other (by decide)]; exact e1_35
  have e2_36 : a2.eval (.tmp 36) = .int .i64 y := by rw [ha2, Ev.same (by rw [k1.1, hsz]; decide)]
  rw [← ha2]
  clear ha2 e1_12 e1_35
  clear e2_12
  refine Ev.v (N := 37) (v := .agg #[.int .i64 (i : Int), .int .i64 y]) (W' := W) ?_ rfl rfl rfl ?_
  · unfold execOp
    generalize a2.eval = ev at *
    go_simp
  obtain ⟨a3, ha3⟩ : ∃ x, x = a2.put (some 37) (.agg #[.int .i64 (i : Int), .int .i64 y]) := ⟨_, rfl⟩
  have k3 : Ev.Keep a a3 14 := by rw [ha3]; exact k2.put (Or.inl (by decide)) _
  have e3_35 : a3.eval (.tmp 35) = .int .i64 (i : Int) := by rw [ha3, Ev.other (by decide)]; exact e2_35
  have e3_36 : a3.eval (.tmp 36) = .int .i64 y := by rw [ha3, Ev.other (by decide)]; exact e2_36
  have e3_37 : a3.eval (.tmp 37) = .agg #[.int .i64 (i : Int), .int .i64 y] := by rw [ha3, Ev.same (by rw [k2.1, hsz]; decide)]
  rw [← ha3]
  clear ha3 e2_35 e2_36
  clear e3_35
  clear e3_36
  refine Ev.v (N := 38) (v := .agg #[.int .i64 (i : Int), .int .i64 y, .pointer none]) (W' := W) ?_ rfl rfl rfl ?_
  · unfold execOp
    generalize a3.eval = ev at *
    go_simp
  obtain ⟨a4, ha4⟩ : ∃ x, x = a3.put (some 38) (.agg #[.int .i64 (i : Int), .int .i64 y, .pointer none]) := ⟨_, rfl⟩
  have k4 : Ev.Keep a a4 14 := by rw [ha4]; exact k3.put (Or.inl (by decide)) _
  have e4_37 : a4.eval (.tmp 37) = .agg #[.int .i64 (i : Int), .int .i64 y] := by rw [ha4, Ev.other (by decide)]; exact e3_37
  have e4_38 : a4.eval (.tmp 38) = .agg #[.int .i64 (i : Int), .int .i64 y, .pointer none] := by rw [ha4, Ev.same (by rw [k3.1, hsz]; decide)]
  rw [← ha4]
  clear ha4 e3_37
  clear e4_37
  refine Ev.v (N := 39) (v := .pointer (some ⟨W.heap.size, 0, none⟩)) (W' := W.alloc (.cells #[.int .i64 (i : Int), .int .i64 y, .pointer none] 44)) ?_ rfl rfl rfl ?_
  · unfold execOp
    generalize a4.eval = ev at *
    go_simp
  obtain ⟨a5, ha5⟩ : ∃ x, x = a4.put (some 39) (.pointer (some ⟨W.heap.size, 0, none⟩)) := ⟨_, rfl⟩
  have k5 : Ev.Keep a a5 14 := by rw [ha5]; exact k4.put (Or.inl (by decide)) _
  have e5_38 : a5.eval (.tmp 38) = .agg #[.int .i64 (i : Int), .int .i64 y, .pointer none] := by rw [ha5, Ev.other (by decide)]; exact e4_38
  have e5_39 : a5.eval (.tmp 39) = .pointer (some ⟨W.heap.size, 0, none⟩) := by rw [ha5, Ev.same (by rw [k4.1, hsz]; decide)]
  rw [← ha5]
  clear ha5 e4_38
  clear e5_38
  refine Ev.v (N := 14) (v := .pointer (some ⟨W.heap.size, 0, none⟩)) (W' := W.alloc (.cells #[.int .i64 (i : Int), .int .i64 y, .pointer none] 44)) ?_ rfl rfl rfl ?_
  · unfold execOp
    generalize a5.eval = ev at *
    go_simp
  obtain ⟨a6, ha6⟩ : ∃ x, x = a5.put (some 14) (.pointer (some ⟨W.heap.size, 0, none⟩)) := ⟨_, rfl⟩
  have k6 : Ev.Keep a a6 14 := by rw [ha6]; exact k5.put (Or.inr rfl) _
  have e6_39 : a6.eval (.tmp 39) = .pointer (some ⟨W.heap.size, 0, none⟩) := by rw [ha6, Ev.other (by decide)]; exact e5_39
  have e6_14 : a6.eval (.tmp 14) = .pointer (some ⟨W.heap.size, 0, none⟩) := by rw [ha6, Ev.same (by rw [k5.1, hsz]; decide)]
  rw [← ha6]
  clear ha6 e5_39
  exact hQ _ k6 e6_14
theorem Rg.r11 {l n id : Nat} {Q : Exit → Act → World → Prop} {a : Act} {W : World} {v : Nat}
    (hsz : a.tmps.size = 99) (h13 : a.eval (.tmp 13) = .int .i64 (v : Int))
    (hQ : ∀ a', Ev.Keep a a' 99 → a'.eval (.tmp 41) = .bool (decide (0 < v)) → Q .normal a' W) : (Code.region id (Rg.ops 11) false).wpIn (Fence.wide.inRound l) n Try.prog Q a W := by
  refine wpIn_region_list ?_
  show wpListIn _ _ _ _ _ (_ :: _ :: []) _ _
  have k0 : Ev.Keep a a 99 := Ev.Keep.refl a 99
  refine Ev.v (N := 40) (v := .int .i64 (v : Int)) (W' := W) ?_ rfl rfl rfl ?_
  · unfold execOp
    generalize a.eval = ev at *
    go_simp
  obtain ⟨a1, ha1⟩ : ∃ x, x = a.put (some 40) (.int .i64 (v : Int)) := ⟨_, rfl⟩
  have k1 : Ev.Keep a a1 99 := by rw [ha1]; exact k0.put (Or.inl (by decide)) _
  have e1_13 : a1.eval (.tmp 13) = .int .i64 (v : Int) := by rw [ha1, Ev.other (by decide)]; exact h13
  have e1_40 : a1.eval (.tmp 40) = .int .i64 (v : Int) := by rw [ha1, Ev.same (by rw [k0.1, hsz]; decide)]
  rw [← ha1]
  clear ha1 
  clear e1_13
  refine Ev.v (N := 41) (v := .bool (decide (0 < v))) (W' := W) ?_ rfl rfl rfl ?_
  · have ec : a1.eval (.const (.int .i64 0)) = .int .i64 0 := rfl
    unfold execOp
    generalize a1.eval = ev at *
    (first | (go_simp; done) | (go_simp; simp))
  obtain ⟨a2, ha2⟩ : ∃ x, x = a1.put (some 41) (.bool (decide (0 < v))) := ⟨_, rfl⟩
  have k2 : Ev.Keep a a2 99 := by rw [ha2]; exact k1.put (Or.inl (by decide)) _
  have e2_40 : a2.eval (.tmp 40) = .int .i64 (v : Int) := by rw [ha2, Ev.other (by decide)]; exact e1_40
  have e2_41 : a2.eval (.tmp 41) = .bool (decide (0 < v)) := by rw [ha2, Ev.same (by rw [k1.1, hsz]; decide)]
  rw [← ha2]
  clear ha2 e1_40
  exact hQ _ k2 e2_41
theorem Ev.cell44 {W : World} {b : Nat} {x y q : Value} (h : W.heap[b]? = some (.cells #[x, y, q] 44 (0, 0))) : W.cell? ⟨b, 2, none⟩ = some q ∧ W.frozen? ⟨b, 2, none⟩ = false := by
  constructor <;> simp [World.cell?, World.frozen?, h]
theorem Rg.r12 {l n id : Nat} {Q : Exit → Act → World → Prop} {a : Act} {W : World} {n₀ v b ne ce : Nat} {Ae q : Option Addr} {ps : List Value} {x1 x2 x3 : Value}
    (hsz : a.tmps.size = 99) (h8 : a.eval (.tmp 8) = .pointer (some ⟨n₀ + 1, 0, none⟩)) (h13 : a.eval (.tmp 13) = .int .i64 (v : Int)) (h14 : a.eval (.tmp 14) = .pointer (some ⟨b, 0, none⟩)) (hv : 0 < v) (hv2 : v ≤ ne) (hne : ne ≤ 2000000) (m2 : Boxed W (n₀ + 1) 35 (.slice Ae ne ce)) (m4 : W.ownsRow n₀ 40 1 (.slice Ae ne ce) ne ps) (hq : ps[v - 1]? = some (.pointer q)) (hb : W.heap[b]? = some (.cells #[x1, x2, x3] 44 (0, 0)))
    (hQ : ∀ a', Ev.Keep a a' 99 → Q .normal a' (W.setCell ⟨b, 2, none⟩ (.pointer q))) : (Code.region id (Rg.ops 12) false).wpIn (Fence.wide.inRound l) n Try.prog Q a W := by
  refine wpIn_region_list ?_
  show wpListIn _ _ _ _ _ (_ :: _ :: _ :: _ :: _ :: _ :: _ :: _ :: _ :: []) _ _
  have k0 : Ev.Keep a a 99 := Ev.Keep.refl a 99
  obtain ⟨g, rfl, hg, hl⟩ := Ev.own_some m4 (by omega)
  have hcell : W.cell? ⟨g, v - 1, none⟩ = some (.pointer q) := by
    have := m4.cells (g := g) rfl (v - 1) _ hq
    rwa [add_plain] at this
  have h44 := Ev.cell44 hb
  refine Ev.v (N := 42) (v := .pointer (some ⟨b, 0, none⟩)) (W' := W) ?_ rfl rfl rfl ?_
  · unfold execOp
    generalize a.eval = ev at *
    go_simp
  obtain ⟨a1, ha1⟩ : ∃ x, x = a.put (some 42) (.pointer (some ⟨b, 0, none⟩)) := ⟨_, rfl⟩
  have k1 : Ev.Keep a a1 99 := by rw [ha1]; exact k0.put (Or.inl (by decide)) _
  have e1_8 : a1.eval (.tmp 8) = .pointer (some ⟨n₀ + 1, 0, none⟩) := by rw [ha1, Ev.other (by decide)]; exact h8
  have e1_13 : a1.eval (.tmp 13) = .int .i64 (v : Int) := by rw [ha1, Ev.other (by decide)]; exact h13
  have e1_14 : a1.eval (.tmp 14) = .pointer (some ⟨b, 0, none⟩) := by rw [ha1, Ev.other (by decide)]; exact h14
  have e1_42 : a1.eval (.tmp 42) = .pointer (some ⟨b, 0, none⟩) := by rw [ha1, Ev.same (by rw [k0.1, hsz]; decide)]
  rw [← ha1]
  clear ha1 
  clear e1_14
  have hc := m2.cell
  refine Ev.v (N := 43) (v := .slice (some ⟨g, 0, none⟩) ne ce) (W' := W) ?_ rfl rfl rfl ?_
  · unfold execOp
    generalize a1.eval = ev at *
    go_simp
  obtain ⟨a2, ha2⟩ : ∃ x, x = a1.put (some 43) (.slice (some ⟨g, 0, none⟩) ne ce) := ⟨_, rfl⟩
  have k2 : Ev.Keep a a2 99 := by rw [ha2]; exact k1.put (Or.inl (by decide)) _
  have e2_8 : a2.eval (.tmp 8) = .pointer (some ⟨n₀ + 1, 0, none⟩) := by rw [ha2, Ev.other (by decide)]; exact e1_8
  have e2_13 : a2.eval (.tmp 13) = .int .i64 (v : Int) := by rw [ha2, Ev.other (by decide)]; exact e1_13
  have e2_42 : a2.eval (.tmp 42) = .pointer (some ⟨b, 0, none⟩) := by rw [ha2, Ev.other (by decide)]; exact e1_42
  have e2_43 : a2.eval (.tmp 43) = .slice (some ⟨g, 0, none⟩) ne ce := by rw [ha2, Ev.same (by rw [k1.1, hsz]; decide)]
  rw [← ha2]
  clear ha2 e1_8 e1_13 e1_42
  clear e2_8
  clear hc
  refine Ev.v (N := 44) (v := .int .i64 (v : Int)) (W' := W) ?_ rfl rfl rfl ?_
  · unfold execOp
    generalize a2.eval = ev at *
    go_simp
  obtain ⟨a3, ha3⟩ : ∃ x, x = a2.put (some 44) (.int .i64 (v : Int)) := ⟨_, rfl⟩
  have k3 : Ev.Keep a a3 99 := by rw [ha3]; exact k2.put (Or.inl (by decide)) _
  have e3_13 : a3.eval (.tmp 13) = .int .i64 (v : Int) := by rw [ha3, Ev.other (by decide)]; exact e2_13
  have e3_42 : a3.eval (.tmp 42) = .pointer (some ⟨b, 0, none⟩) := by rw [ha3, Ev.other (by decide)]; exact e2_42
  have e3_43 : a3.eval (.tmp 43) = .slice (some ⟨g, 0, none⟩) ne ce := by rw [ha3, Ev.other (by decide)]; exact e2_43
  have e3_44 : a3.eval (.tmp 44) = .int .i64 (v : Int) := by rw [ha3, Ev.same (by rw [k2.1, hsz]; decide)]
  rw [← ha3]
  clear ha3 e2_13 e2_42 e2_43
  clear e3_13
  have ew : wrap64 ((v : Int) - 1) = ((v - 1 : Nat) : Int) := by unfold wrap64; omega
  refine Ev.v (N := 45) (v := .int .i64 ((v - 1 : Nat) : Int)) (W' := W) ?_ rfl rfl rfl ?_
  · have ec : a3.eval (.const (.int .i64 1)) = .int .i64 1 := rfl
    unfold execOp
    generalize a3.eval = ev at *
    (go_simp; first | exact ew | (rw [IntWalk.i64_in _ (by omega)]; omega) | (simp [IntKind.wrap, IntKind.signed, IntKind.bits]; omega))
  obtain ⟨a4, ha4⟩ : ∃ x, x = a3.put (some 45) (.int .i64 ((v - 1 : Nat) : Int)) := ⟨_, rfl⟩
  have k4 : Ev.Keep a a4 99 := by rw [ha4]; exact k3.put (Or.inl (by decide)) _
  have e4_42 : a4.eval (.tmp 42) = .pointer (some ⟨b, 0, none⟩) := by rw [ha4, Ev.other (by decide)]; exact e3_42
  have e4_43 : a4.eval (.tmp 43) = .slice (some ⟨g, 0, none⟩) ne ce := by rw [ha4, Ev.other (by decide)]; exact e3_43
  have e4_44 : a4.eval (.tmp 44) = .int .i64 (v : Int) := by rw [ha4, Ev.other (by decide)]; exact e3_44
  have e4_45 : a4.eval (.tmp 45) = .int .i64 ((v - 1 : Nat) : Int) := by rw [ha4, Ev.same (by rw [k3.1, hsz]; decide)]
  rw [← ha4]
  clear ha4 e3_42 e3_43 e3_44
  clear e4_44
  clear ew
  have hlt : v - 1 < ne := by omega
  refine Ev.v (N := 46) (v := .pointer (some ⟨g, v - 1, none⟩)) (W' := W) ?_ rfl rfl rfl ?_
  · unfold execOp
    generalize a4.eval = ev at *
    go_simp
  obtain ⟨a5, ha5⟩ : ∃ x, x = a4.put (some 46) (.pointer (some ⟨g, v - 1, none⟩)) := ⟨_, rfl⟩
  have k5 : Ev.Keep a a5 99 := by rw [ha5]; exact k4.put (Or.inl (by decide)) _
  have e5_42 : a5.eval (.tmp 42) = .pointer (some ⟨b, 0, none⟩) := by rw [ha5, Ev.other (by decide)]; exact e4_42
  have e5_43 : a5.eval (.tmp 43) = .slice (some ⟨g, 0, none⟩) ne ce := by rw [ha5, Ev.other (by decide)]; exact e4_43
  have e5_45 : a5.eval (.tmp 45) = .int .i64 ((v - 1 : Nat) : Int) := by rw [ha5, Ev.other (by decide)]; exact e4_45
  have e5_46 : a5.eval (.tmp 46) = .pointer (some ⟨g, v - 1, none⟩) := by rw [ha5, Ev.same (by rw [k4.1, hsz]; decide)]
  rw [← ha5]
  clear ha5 e4_42 e4_43 e4_45
  clear e5_43
  clear e5_45
  refine Ev.v (N := 47) (v := .pointer q) (W' := W) ?_ rfl rfl rfl ?_
  · unfold execOp
    generalize a5.eval = ev at *
    go_simp
  obtain ⟨a6, ha6⟩ : ∃ x, x = a5.put (some 47) (.pointer q) := ⟨_, rfl⟩
  have k6 : Ev.Keep a a6 99 := by rw [ha6]; exact k5.put (Or.inl (by decide)) _
  have e6_42 : a6.eval (.tmp 42) = .pointer (some ⟨b, 0, none⟩) := by rw [ha6, Ev.other (by decide)]; exact e5_42
  have e6_46 : a6.eval (.tmp 46) = .pointer (some ⟨g, v - 1, none⟩) := by rw [ha6, Ev.other (by decide)]; exact e5_46
  have e6_47 : a6.eval (.tmp 47) = .pointer q := by rw [ha6, Ev.same (by rw [k5.1, hsz]; decide)]
  rw [← ha6]
  clear ha6 e5_42 e5_46
  clear e6_46
  refine Ev.v (N := 48) (v := .pointer (some ⟨b, 0, none⟩)) (W' := W) ?_ rfl rfl rfl ?_
  · unfold execOp
    generalize a6.eval = ev at *
    go_simp
  obtain ⟨a7, ha7⟩ : ∃ x, x = a6.put (some 48) (.pointer (some ⟨b, 0, none⟩)) := ⟨_, rfl⟩
  have k7 : Ev.Keep a a7 99 := by rw [ha7]; exact k6.put (Or.inl (by decide)) _
  have e7_42 : a7.eval (.tmp 42) = .pointer (some ⟨b, 0, none⟩) := by rw [ha7, Ev.other (by decide)]; exact e6_42
  have e7_47 : a7.eval (.tmp 47) = .pointer q := by rw [ha7, Ev.other (by decide)]; exact e6_47
  have e7_48 : a7.eval (.tmp 48) = .pointer (some ⟨b, 0, none⟩) := by rw [ha7, Ev.same (by rw [k6.1, hsz]; decide)]
  rw [← ha7]
  clear ha7 e6_42 e6_47
  clear e7_42
  refine Ev.v (N := 49) (v := .pointer (some ⟨b, 2, none⟩)) (W' := W) ?_ rfl rfl rfl ?_
  · unfold execOp
    generalize a7.eval = ev at *
    go_simp
  obtain ⟨a8, ha8⟩ : ∃ x, x = a7.put (some 49) (.pointer (some ⟨b, 2, none⟩)) := ⟨_, rfl⟩
  have k8 : Ev.Keep a a8 99 := by rw [ha8]; exact k7.put (Or.inl (by decide)) _
  have e8_47 : a8.eval (.tmp 47) = .pointer q := by rw [ha8, Ev.other (by decide)]; exact e7_47
  have e8_48 : a8.eval (.tmp 48) = .pointer (some ⟨b, 0, none⟩) := by rw [ha8, Ev.other (by decide)]; exact e7_48
  have e8_49 : a8.eval (.tmp 49) = .pointer (some ⟨b, 2, none⟩) := by rw [ha8, Ev.same (by rw [k7.1, hsz]; decide)]
  rw [← ha8]
  clear ha8 e7_47 e7_48
  clear e8_48
  refine Ev.k (W' := W.setCell ⟨b, 2, none⟩ (.pointer q)) ?_ rfl rfl rfl ?_
  · have h1 := h44.1
    have h2 := h44.2
    unfold execOp
    generalize a8.eval = ev at *
    go_simp
  exact hQ _ k8
theorem Rg.r13 {l n id : Nat} {Q : Exit → Act → World → Prop} {a : Act} {W : World} {n₀ v nt ct : Nat} {At : Option Addr}
    (hsz : a.tmps.size = 99) (h7 : a.eval (.tmp 7) = .pointer (some ⟨n₀, 0, none⟩)) (h13 : a.eval (.tmp 13) = .int .i64 (v : Int)) (m1 : Boxed W n₀ 25 (.slice At nt ct))
    (hQ : ∀ a', Ev.Keep a a' 99 → a'.eval (.tmp 53) = .bool (decide (v = nt)) → Q .normal a' W) : (Code.region id (Rg.ops 13) false).wpIn (Fence.wide.inRound l) n Try.prog Q a W := by
  refine wpIn_region_list ?_
  show wpListIn _ _ _ _ _ (_ :: _ :: _ :: _ :: []) _ _
  have k0 : Ev.Keep a a 99 := Ev.Keep.refl a 99
  refine Ev.v (N := 50) (v := .int .i64 (v : Int)) (W' := W) ?_ rfl rfl rfl ?_
  · unfold execOp
    generalize a.eval = ev at *
    go_simp
  obtain ⟨a1, ha1⟩ : ∃ x, x = a.put (some 50) (.int .i64 (v : Int)) := ⟨_, rfl⟩
  have k1 : Ev.Keep a a1 99 := by rw [ha1]; exact k0.put (Or.inl (by decide)) _
  have e1_7 : a1.eval (.tmp 7) = .pointer (some ⟨n₀, 0, none⟩) := by rw [ha1, Ev.other (by decide)]; exact h7
  have e1_13 : a1.eval (.tmp 13) = .int .i64 (v : Int) := by rw [ha1, Ev.other (by decide)]; exact h13
  have e1_50 : a1.eval (.tmp 50) = .int .i64 (v : Int) := by rw [ha1, Ev.same (by rw [k0.1, hsz]; decide)]
  rw [← ha1]
  clear ha1 
  clear e1_13
  have hc := m1.cell
  refine Ev.v (N := 51) (v := .slice At nt ct) (W' := W) ?_ rfl rfl rfl ?_
  · unfold execOp
    generalize a1.eval = ev at *
    go_simp
  obtain ⟨a2, ha2⟩ : ∃ x, x = a1.put (some 51) (.slice At nt ct) := ⟨_, rfl⟩
  have k2 : Ev.Keep a a2 99 := by rw [ha2]; exact k1.put (Or.inl (by decide)) _
  have e2_7 : a2.eval (.tmp 7) = .pointer (some ⟨n₀, 0, none⟩) := by rw [ha2, Ev.other (by decide)]; exact e1_7
  have e2_50 : a2.eval (.tmp 50) = .int .i64 (v : Int) := by rw [ha2, Ev.other (by decide)]; exact e1_50
  have e2_51 : a2.eval (.tmp 51) = .slice At nt ct := by rw [ha2, Ev.same (by rw [k1.1, hsz]; decide)]
  rw [← ha2]
  clear ha2 e1_7 e1_50
  clear e2_7
  clear hc
  refine Ev.v (N := 52) (v := .int .i64 (nt : Int)) (W' := W) ?_ rfl rfl rfl ?_
  · unfold execOp
    generalize a2.eval = ev at *
    go_simp
  obtain ⟨a3, ha3⟩ : ∃ x, x = a2.put (some 52) (.int .i64 (nt : Int)) := ⟨_, rfl⟩
  have k3 : Ev.Keep a a3 99 := by rw [ha3]; exact k2.put (Or.inl (by decide)) _
  have e3_50 : a3.eval (.tmp 50) = .int .i64 (v : Int) := by rw [ha3, Ev.other (by decide)]; exact e2_50
  have e3_51 : a3.eval (.tmp 51) = .slice At nt ct := by rw [ha3, Ev.other (by decide)]; exact e2_51
  have e3_52 : a3.eval (.tmp 52) = .int .i64 (nt : Int) := by rw [ha3, Ev.same (by rw [k2.1, hsz]; decide)]
  rw [← ha3]
  clear ha3 e2_50 e2_51
  clear e3_51
  refine Ev.v (N := 53) (v := .bool (decide (v = nt))) (W' := W) ?_ rfl rfl rfl ?_
  · unfold execOp
    generalize a3.eval = ev at *
    (go_simp; rw [Bool.eq_iff_iff]; simp; try omega)
  obtain ⟨a4, ha4⟩ : ∃ x, x = a3.put (some 53) (.bool (decide (v = nt))) := ⟨_, rfl⟩
  have k4 : Ev.Keep a a4 99 := by rw [ha4]; exact k3.put (Or.inl (by decide)) _
  have e4_50 : a4.eval (.tmp 50) = .int .i64 (v : Int) := by rw [ha4, Ev.other (by decide)]; exact e3_50
  have e4_52 : a4.eval (.tmp 52) = .int .i64 (nt : Int) := by rw [ha4, Ev.other (by decide)]; exact e3_52
  have e4_53 : a4.eval (.tmp 53) = .bool (decide (v = nt)) := by rw [ha4, Ev.same (by rw [k3.1, hsz]; decide)]
  rw [← ha4]
  clear ha4 e3_50 e3_52
  exact hQ _ k4 e4_53

theorem Rg.links {W W' : World} {n₀ nt ct ne ce : Nat} {At Ae : Option Addr} {xs ps : List Value} {u1 u2 : Value} (m1 : Boxed W n₀ 25 u1) (m2 : Boxed W (n₀ + 1) 35 u2) (m3 : W.ownsRow n₀ 3 1 (.slice At nt ct) nt xs) (m4 : W.ownsRow n₀ 40 1 (.slice Ae ne ce) ne ps)
    (hk : Kept W W' (fun k => k = n₀ ∨ k = n₀ + 1 ∨ some k = (Value.slice At nt ct).ownBlock ∨ some k = (Value.slice Ae ne ce).ownBlock)) : ∀ (b : Nat) (cells : Array Value), W.heap[b]? = some (.cells cells 44 (0, 0)) → W'.heap[b]? = W.heap[b]? := by
  intro b cells hb
  refine hk.2 b (Array.getElem?_eq_some_iff.1 hb).1 ?_
  rintro (rfl | rfl | h | h)
  · have h1 : W.heap[b]? = some (.cells #[u1] 25 (0, 0)) := m1
    rw [hb] at h1
    injection h1 with h1
    injection h1 with _ h2
    exact absurd h2 (by decide)
  · have h1 : W.heap[n₀ + 1]? = some (.cells #[u2] 35 (0, 0)) := m2
    rw [hb] at h1
    injection h1 with h1
    injection h1 with _ h2
    exact absurd h2 (by decide)
  · exact Ev.own_ne m3 hb (by decide) h
  · exact Ev.own_ne m4 hb (by decide) h
/-- A place is put: what the thresholds and the lists' ends become. -/
def Rg.put (i y : Int) (v : Nat) (s : List Int × List (List (Int × Int))) : List Int × List (List (Int × Int)) :=
  (if v = s.1.length then s.1 ++ [y] else s.1.set v y, if v = s.1.length then s.2 ++ [(i, y) :: (if 0 < v then s.2.getD (v - 1) [] else [])] else s.2.set v ((i, y) :: (if 0 < v then s.2.getD (v - 1) [] else [])))
theorem Ev.boxed_far' {W : World} {B : Nat} {p : Addr} {t : TypeId} {u : Value} (h : Boxed W B t u) (hne : B ≠ p.block) {x : Value} : Boxed (W.setCell p x) B t u := (Below.heap_setCell W p x B hne).trans h
theorem hunt_Run.Chain.ptr {W : World} {p : Value} {cs : List (Int × Int)} (h : hunt_Run.Chain W p cs) : ∃ q, p = .pointer q := by
  cases cs with
  | nil => exact ⟨_, h⟩
  | cons c cs => obtain ⟨b, q, h1, _⟩ := h; exact ⟨_, h1⟩
noncomputable def Rg.code : Code := .block 3 (.seq (.region 9 (Rg.ops 9) false) (.seq (.region 10 (Rg.ops 10) false) (.seq (.seq (.region 11 (Rg.ops 11) false) (.cond (.tmp 41) (.region 12 (Rg.ops 12) false) .skip)) (.seq (.region 13 (Rg.ops 13) false) (.cond (.tmp 53) (.region 14 Rg.ops14 true) (.region 15 Rg.ops15 true))))))
set_option maxHeartbeats 1000000 in
theorem Rg.body {l n : Nat} {Q : Exit → Act → World → Prop} {a : Act} {W : World} {n₀ B i v : Nat} {y : Int} {At Ae : Option Addr} {ct ce : Nat} {s : List Int × List (List (Int × Int))} {ps : List Value}
    (hL : ¬ LetsOut Q) (hP : ∀ c a a' w, Q (.panic c) a w → Q (.panic c) a' w) (hsz : a.tmps.size = 99) (h7 : a.eval (.tmp 7) = .pointer (some ⟨n₀, 0, none⟩)) (h8 : a.eval (.tmp 8) = .pointer (some ⟨n₀ + 1, 0, none⟩)) (h9 : a.eval (.tmp 9) = .pointer (some ⟨B, 0, none⟩)) (h12 : a.eval (.tmp 12) = .int .i64 y)
    (hB : n₀ + 2 ≤ B) (m1 : Boxed W n₀ 25 (.slice At s.1.length ct)) (m2 : Boxed W (n₀ + 1) 35 (.slice Ae s.2.length ce)) (m3 : Kd.R (Kd.int .i64) 3 W n₀ (fun g => g ≠ B) (.slice At s.1.length ct) s.1) (m4 : W.ownsRow n₀ 40 1 (.slice Ae s.2.length ce) s.2.length ps) (m5 : s.1.length = s.2.length) (m6 : ∀ i p, ps[i]? = some p → hunt_Run.Chain W p (s.2.getD i []))
    (g6 : Boxed W B 3 (.int .i64 (i : Int))) (hl : s.1.length ≤ 2000000) (hv : v ≤ s.1.length) (hF : thresh_Find.f (s.1.length + 1) s.1 y = some (v : Int))
    (hQ : ∀ a' W', hunt_Run.Mem W' n₀ n₀ (n₀ + 1) (fun g => g ≠ B) (Rg.put (i : Int) y v s) → Kept W W' (fun k => k = n₀ ∨ k = n₀ + 1 ∨ some k = (Value.slice At s.1.length ct).ownBlock ∨ some k = (Value.slice Ae s.2.length ce).ownBlock) → Below n₀ W W' → Q .normal a' W') :
    Rg.code.wpIn (Fence.wide.inRound l) n Try.prog Q a W := by
  have lps : ps.length = s.2.length := by have := m4.1; omega
  have hC := (Kd.R_reads' m3).2.2
  have hcap := (Kd.R_reads' m3).2.1
  refine wpIn_block ?_
  have hL' : ¬ LetsOut (Exit.inBlock 3 Q) := hL
  have hP' : ∀ c a a' w, (Exit.inBlock 3 Q) (.panic c) a w → (Exit.inBlock 3 Q) (.panic c) a' w := hP
  have hQ' : ∀ a' W', hunt_Run.Mem W' n₀ n₀ (n₀ + 1) (fun g => g ≠ B) (Rg.put (i : Int) y v s) → Kept W W' (fun k => k = n₀ ∨ k = n₀ + 1 ∨ some k = (Value.slice At s.1.length ct).ownBlock ∨ some k = (Value.slice Ae s.2.length ce).ownBlock) → Below n₀ W W' → (Exit.inBlock 3 Q) .normal a' W' := hQ
  generalize Exit.inBlock 3 Q = Q' at hL' hP' hQ' ⊢
  clear hL hP hQ
  refine wpIn_seq (Rg.r9 hsz h7 h12 m1 hC hcap hF ?_)
  intro a1 nd k1 e13
  show Code.wpIn _ _ _ _ _ _ _
  have z1 : a1.tmps.size = 99 := k1.1.trans hsz
  have f7 := (k1.2 7 (by decide) (by decide)).trans h7
  have f8 := (k1.2 8 (by decide) (by decide)).trans h8
  have f9 := (k1.2 9 (by decide) (by decide)).trans h9
  have f12 := (k1.2 12 (by decide) (by decide)).trans h12
  clear k1 hC
  refine wpIn_seq (Rg.r10 z1 f9 f12 (show Boxed (W.drewN nd) B 3 _ from g6) ?_)
  intro a2 k2 e14
  show Code.wpIn _ _ _ _ _ _ _
  have z2 : a2.tmps.size = 99 := k2.1.trans z1
  replace f7 := (k2.2 7 (by decide) (by decide)).trans f7
  replace f8 := (k2.2 8 (by decide) (by decide)).trans f8
  replace f12 := (k2.2 12 (by decide) (by decide)).trans f12
  replace e13 := (k2.2 13 (by decide) (by decide)).trans e13
  clear k2 f9
  have own := Kd.own_of_R m3
  have tB : some B ≠ (Value.slice At s.1.length ct).ownBlock := fun e => m3.1 B e.symm rfl
  -- what lies behind the link's making
  have hb2 : ((W.drewN nd).alloc (.cells #[.int .i64 (i : Int), .int .i64 y, .pointer none] 44)).heap[W.heap.size]? = some (.cells #[.int .i64 (i : Int), .int .i64 y, .pointer none] 44 (0, 0)) := blk_new (W.drewN nd) _
  have kp2 : Kept W ((W.drewN nd).alloc (.cells #[.int .i64 (i : Int), .int .i64 y, .pointer none] 44)) (fun _ => False) := ((Kept.refl W _).drewN nd).alloc _
  have bl2 : Below n₀ W ((W.drewN nd).alloc (.cells #[.int .i64 (i : Int), .int .i64 y, .pointer none] 44)) := (pw_below_drewN (Below.refl _ _) nd).alloc (by have := m2.lt; show n₀ ≤ W.heap.size; omega) _
  have e14' : a2.eval (.tmp 14) = .pointer (some ⟨W.heap.size, 0, none⟩) := e14
  clear e14
  generalize ((W.drewN nd).alloc (.cells #[.int .i64 (i : Int), .int .i64 y, .pointer none] 44)) = W2 at hb2 kp2 bl2 ⊢
  have n1 : Boxed W2 n₀ 25 (.slice At s.1.length ct) := (kp2.2 _ m1.lt (fun h => h)).trans m1
  have n2 : Boxed W2 (n₀ + 1) 35 (.slice Ae s.2.length ce) := (kp2.2 _ m2.lt (fun h => h)).trans m2
  have gk : W.grownBy W2 none := ⟨bl2.os, bl2.tape, bl2.output, bl2.size, fun k hk _ => kp2.2 k hk (fun h => h)⟩
  have n3 : W2.ownsRow n₀ 3 1 (.slice At s.1.length ct) s.1.length (encs (Value.int .i64) s.1) := Ev.own_kept own gk (fun k _ => by simp)
  have n4 : W2.ownsRow n₀ 40 1 (.slice Ae s.2.length ce) s.2.length ps := Ev.own_kept m4 gk (fun k _ => by simp)
  have n6 : ∀ i p, ps[i]? = some p → hunt_Run.Chain W2 p (s.2.getD i []) := fun i p hp => (m6 i p hp).kept (fun b cells hb => kp2.2 b (Array.getElem?_eq_some_iff.1 hb).1 (fun h => h))
  -- the link's tail, and what follows
  have main : ∀ (a3 : Act) (W3 : World), a3.tmps.size = 99 → a3.eval (.tmp 7) = .pointer (some ⟨n₀, 0, none⟩) → a3.eval (.tmp 8) = .pointer (some ⟨n₀ + 1, 0, none⟩) → a3.eval (.tmp 12) = .int .i64 y → a3.eval (.tmp 13) = .int .i64 (v : Int) → a3.eval (.tmp 14) = .pointer (some ⟨W.heap.size, 0, none⟩) →
      Boxed W3 n₀ 25 (.slice At s.1.length ct) → Boxed W3 (n₀ + 1) 35 (.slice Ae s.2.length ce) → W3.ownsRow n₀ 3 1 (.slice At s.1.length ct) s.1.length (encs (Value.int .i64) s.1) → W3.ownsRow n₀ 40 1 (.slice Ae s.2.length ce) s.2.length ps → (∀ i p, ps[i]? = some p → hunt_Run.Chain W3 p (s.2.getD i [])) →
      hunt_Run.Chain W3 (.pointer (some ⟨W.heap.size, 0, none⟩)) (((i : Int), y) :: (if 0 < v then s.2.getD (v - 1) [] else [])) → Kept W W3 (fun _ => False) → Below n₀ W W3 →
      (Code.seq (.region 13 (Rg.ops 13) false) (.cond (.tmp 53) (.region 14 Rg.ops14 true) (.region 15 Rg.ops15 true))).wpIn (Fence.wide.inRound l) n Try.prog Q' a3 W3 := by
    intro a3 W3 z3 d7 d8 d12 d13 d14 p1 p2 p3 p4 p6 pc pk pb
    refine wpIn_seq (Rg.r13 z3 d7 d13 p1 ?_)
    intro a4 k4 e53
    show Code.wpIn _ _ _ _ _ _ _
    have z4 : a4.tmps.size = 99 := k4.1.trans z3
    replace d7 := (k4.2 7 (by decide) (by decide)).trans d7
    replace d8 := (k4.2 8 (by decide) (by decide)).trans d8
    replace d12 := (k4.2 12 (by decide) (by decide)).trans d12
    replace d13 := (k4.2 13 (by decide) (by decide)).trans d13
    replace d14 := (k4.2 14 (by decide) (by decide)).trans d14
    clear k4
    by_cases hq : v = s.1.length
    · refine wpIn_cond_true (by rw [e53, decide_eq_true hq]) ?_
      refine Rg.r14 hL' hP' z4 d7 d8 d12 d14 p1 p2 p3 p4 hl (by omega) ?_
      intro a5 W5 At' ct' Ae' ce' r1 r2 r3 r4 rk rb rn
      have lk := Rg.links p1 p2 p3 p4 rk
      have e1 : Rg.put (i : Int) y v s = (s.1 ++ [y], s.2 ++ [((i : Int), y) :: (if 0 < v then s.2.getD (v - 1) [] else [])]) := by unfold Rg.put; rw [if_pos hq, if_pos hq]
      refine hQ' _ _ ?_ ((pk.mono (fun k h => h.elim)).then_ rk (fun k hk => Or.inl hk)) (pb.trans rb)
      rw [e1]
      refine ⟨At', ct', Ae', ce', ps ++ [.pointer (some ⟨W.heap.size, 0, none⟩)], ?_, ?_, Kd.R_of_own ?_ (fun k hk => ?_), ?_, ?_, ?_⟩
      · show Boxed W5 n₀ 25 (.slice At' (s.1 ++ [y]).length ct')
        rw [List.length_append]; exact r1
      · show Boxed W5 (n₀ + 1) 35 (.slice Ae' (s.2 ++ [_]).length ce')
        rw [List.length_append]; exact r2
      · show W5.ownsRow n₀ 3 1 (.slice At' (s.1 ++ [y]).length ct') (s.1 ++ [y]).length (encs (Value.int .i64) (s.1 ++ [y]))
        have e2 : encs (Value.int .i64) (s.1 ++ [y]) = encs (Value.int .i64) s.1 ++ [.int .i64 y] := by simp [encs]
        rw [e2, List.length_append]; exact r3
      · have hk' : (Value.slice At' (s.1.length + 1) ct').ownBlock = some k := by
          have h0 : (Value.slice At' (s.1 ++ [y]).length ct').ownBlock = some k := hk
          rw [List.length_append] at h0; exact h0
        rcases rn with h | ⟨b, h, hb⟩
        · rw [h] at hk'
          rintro rfl
          exact tB hk'.symm
        · rw [h] at hk'
          injection hk' with hk'
          rintro rfl
          have := g6.lt
          have := pb.size
          omega
      · show W5.ownsRow n₀ 40 1 (.slice Ae' (s.2 ++ [_]).length ce') (s.2 ++ [_]).length _
        rw [List.length_append]; exact r4
      · show (s.1 ++ [y]).length = (s.2 ++ [_]).length
        rw [List.length_append, List.length_append, m5]; rfl
      · intro j p hp
        show hunt_Run.Chain W5 p ((s.2 ++ [_]).getD j [])
        rcases Nat.lt_or_ge j ps.length with hj | hj
        · rw [List.getElem?_append_left hj] at hp
          rw [List.getD_eq_getElem?_getD, List.getElem?_append_left (by omega), ← List.getD_eq_getElem?_getD]
          exact (p6 j p hp).kept lk
        · rw [List.getElem?_append_right hj] at hp
          have hj0 : j - ps.length = 0 := by
            rcases Nat.eq_zero_or_pos (j - ps.length) with h | h
            · exact h
            · rw [List.getElem?_eq_none (by simp; omega)] at hp; cases hp
          rw [hj0] at hp
          have ep : p = .pointer (some ⟨W.heap.size, 0, none⟩) := by simpa using hp.symm
          subst ep
          rw [List.getD_eq_getElem?_getD, List.getElem?_append_right (by omega), show j - s.2.length = 0 by omega]
          exact pc.kept lk
    · refine wpIn_cond_false (by rw [e53, decide_eq_false hq]) ?_
      refine Rg.r15 hL' hP' z4 d7 d8 d12 d13 d14 p1 p2 p3 p4 (by omega) (by omega) ?_
      intro a5 W5 r1 r2 r3 r4 rk rb
      have lk := Rg.links p1 p2 p3 p4 rk
      have e1 : Rg.put (i : Int) y v s = (s.1.set v y, s.2.set v (((i : Int), y) :: (if 0 < v then s.2.getD (v - 1) [] else []))) := by unfold Rg.put; rw [if_neg hq, if_neg hq]
      refine hQ' _ _ ?_ ((pk.mono (fun k h => h.elim)).then_ rk (fun k hk => Or.inl hk)) (pb.trans rb)
      rw [e1]
      refine ⟨At, ct, Ae, ce, ps.set v (.pointer (some ⟨W.heap.size, 0, none⟩)), ?_, ?_, Kd.R_of_own ?_ (fun k hk => ?_), ?_, ?_, ?_⟩
      · show Boxed W5 n₀ 25 (.slice At (s.1.set v y).length ct)
        rw [List.length_set]; exact r1
      · show Boxed W5 (n₀ + 1) 35 (.slice Ae (s.2.set v _).length ce)
        rw [List.length_set]; exact r2
      · show W5.ownsRow n₀ 3 1 (.slice At (s.1.set v y).length ct) (s.1.set v y).length (encs (Value.int .i64) (s.1.set v y))
        have e2 : encs (Value.int .i64) (s.1.set v y) = (encs (Value.int .i64) s.1).set v (.int .i64 y) := by simp [encs, List.map_set]
        rw [e2, List.length_set]; exact r3
      · have hk' : (Value.slice At s.1.length ct).ownBlock = some k := by
          have h0 : (Value.slice At (s.1.set v y).length ct).ownBlock = some k := hk
          rw [List.length_set] at h0; exact h0
        rintro rfl
        exact tB hk'.symm
      · show W5.ownsRow n₀ 40 1 (.slice Ae (s.2.set v _).length ce) (s.2.set v _).length _
        rw [List.length_set]; exact r4
      · show (s.1.set v y).length = (s.2.set v _).length
        rw [List.length_set, List.length_set, m5]
      · intro j p hp
        show hunt_Run.Chain W5 p ((s.2.set v _).getD j [])
        rcases Nat.lt_or_ge j ps.length with hj | hj
        · by_cases hjv : v = j
          · subst hjv
            rw [List.getElem?_set_self (by omega)] at hp
            have ep : p = .pointer (some ⟨W.heap.size, 0, none⟩) := by simpa using hp.symm
            subst ep
            rw [List.getD_eq_getElem?_getD, List.getElem?_set_self (by omega)]
            exact pc.kept lk
          · rw [List.getElem?_set_ne hjv] at hp
            rw [List.getD_eq_getElem?_getD, List.getElem?_set_ne hjv, ← List.getD_eq_getElem?_getD]
            exact (p6 j p hp).kept lk
        · rw [List.getElem?_eq_none (by rw [List.length_set]; exact hj)] at hp
          cases hp
  refine wpIn_seq (wpIn_seq (Rg.r11 z2 e13 ?_))
  intro a3 k3 e41
  show Code.wpIn _ _ _ _ _ _ _
  have z3 : a3.tmps.size = 99 := k3.1.trans z2
  replace f7 := (k3.2 7 (by decide) (by decide)).trans f7
  replace f8 := (k3.2 8 (by decide) (by decide)).trans f8
  replace f12 := (k3.2 12 (by decide) (by decide)).trans f12
  replace e13 := (k3.2 13 (by decide) (by decide)).trans e13
  replace e14' := (k3.2 14 (by decide) (by decide)).trans e14'
  clear k3
  by_cases hv0 : 0 < v
  · refine wpIn_cond_true (by rw [e41, decide_eq_true hv0]) ?_
    have hps : v - 1 < ps.length := by omega
    have hch := n6 (v - 1) _ (List.getElem?_eq_getElem hps)
    obtain ⟨q, hq⟩ := hch.ptr
    rw [hq] at hch
    refine Rg.r12 (q := q) z3 f8 e13 e14' hv0 (by omega) (by omega) n2 n4 (by rw [List.getElem?_eq_getElem hps, hq]) hb2 ?_
    intro a4 k4
    have gs : W2.grownBy (W2.setCell ⟨W.heap.size, 2, none⟩ (.pointer q)) (some W.heap.size) := ⟨rfl, rfl, rfl, by simp [World.setCell], fun k hk hn => Below.heap_setCell W2 ⟨W.heap.size, 2, none⟩ _ k (fun e => hn (by rw [e]))⟩
    have ne1 : n₀ ≠ W.heap.size := by have := m2.lt; omega
    have ne2 : n₀ + 1 ≠ W.heap.size := by have := m2.lt; omega
    have kk : Kept W2 (W2.setCell ⟨W.heap.size, 2, none⟩ (.pointer q)) (fun k => k = W.heap.size) := Kept.setCell (S := fun k => k = W.heap.size) (Kept.refl W2 _) (p := ⟨W.heap.size, 2, none⟩) (Or.inl rfl) _
    have hold : ∀ i p, ps[i]? = some p → hunt_Run.Chain (W2.setCell ⟨W.heap.size, 2, none⟩ (.pointer q)) p (s.2.getD i []) := fun i p hp => (m6 i p hp).kept (fun b cells hb => by
      have hlt := (Array.getElem?_eq_some_iff.1 hb).1
      exact (kk.2 b (Nat.lt_of_lt_of_le hlt kp2.1) (by omega)).trans (kp2.2 b hlt (fun h => h)))
    refine main a4 _ (k4.1.trans z3) ((k4.2 7 (by decide) (by decide)).trans f7) ((k4.2 8 (by decide) (by decide)).trans f8) ((k4.2 12 (by decide) (by decide)).trans f12) ((k4.2 13 (by decide) (by decide)).trans e13) ((k4.2 14 (by decide) (by decide)).trans e14') (Ev.boxed_far' n1 ne1) (Ev.boxed_far' n2 ne2) ?_ ?_ hold ?_ ?_ ?_
    · exact Ev.own_kept n3 gs (fun k hk he => by
        have h1 := own.lt k hk
        injection he with he
        omega)
    · exact Ev.own_kept n4 gs (fun k hk he => by
        have h1 := m4.lt k hk
        injection he with he
        omega)
    · rw [if_pos hv0]
      refine ⟨W.heap.size, .pointer q, rfl, ?_, ?_⟩
      · have := blk_set hb2 2 (.pointer q)
        simpa using this
      · have h9 := hold (v - 1) _ (List.getElem?_eq_getElem hps)
        rw [hq] at h9
        exact h9
    · exact kp2.setCell (p := ⟨W.heap.size, 2, none⟩) (Or.inr (Nat.le_refl _)) _
    · exact bl2.setCell (p := ⟨W.heap.size, 2, none⟩) (by have := m2.lt; show n₀ ≤ W.heap.size; omega) _
  · refine wpIn_cond_false (by rw [e41, decide_eq_false hv0]) ?_
    refine wpIn_skip ?_
    refine main a3 _ z3 f7 f8 f12 e13 e14' n1 n2 n3 n4 n6 ?_ kp2 bl2
    rw [if_neg hv0]
    exact ⟨W.heap.size, .pointer none, rfl, hb2, rfl⟩
theorem Rg.put_step {i y : Int} {v : Nat} {s : List Int × List (List (Int × Int))} (hF : thresh_Find.f (s.1.length + 1) s.1 y = some (v : Int)) : hunt_Run.step (s.1.length + 1) i s y = some (Rg.put i y v s) := by
  unfold hunt_Run.step Rg.put
  rw [hF, Option.bind_some]
  have e1 : ((v : Int) = (s.1.length : Int)) = (v = s.1.length) := by rw [eq_iff_iff]; omega
  have e2 : (0 < (v : Int)) = (0 < v) := by rw [eq_iff_iff]; omega
  simp only [e1, e2, Int.toNat_natCast]
  rw [show ((v : Int) - 1).toNat = v - 1 by omega]
theorem Rg.put_len {i y : Int} {v : Nat} {s : List Int × List (List (Int × Int))} : (Rg.put i y v s).1.length ≤ s.1.length + 1 := by
  unfold Rg.put
  dsimp only
  split
  · rw [List.length_append]; exact Nat.le_refl _
  · rw [List.length_set]; omega
theorem hunt_Run.Steps.snoc {i y : Int} {q : List Int × List (List (Int × Int))} {k : Nat} : ∀ {js : List Int} {s s' : List Int × List (List (Int × Int))}, hunt_Run.Steps i s js s' → hunt_Run.step k i s' y = some q → hunt_Run.Steps i s (js ++ [y]) q
  | [], s, s', h, hs => by
    have e : s' = s := h
    subst e
    exact ⟨k, q, hs, rfl⟩
  | j :: js, s, s', ⟨k', p, a, c⟩, hs => ⟨k', p, a, hunt_Run.Steps.snoc c hs⟩
theorem Rg.after {W W' : World} {n₀ B i : Nat} {At Ae : Option Addr} {ct ce : Nat} {s1 s : List Int × List (List (Int × Int))} {ps : List Value} {w1 : World} {ms : List Nat} {u : Value} {pre : List (Nat × Int)} {yy : Nat × Int} {v : Nat}
    (hn : n₀ = w1.heap.size) (hB : n₀ + 2 ≤ B) (m1 : Boxed W n₀ 25 (.slice At s.1.length ct)) (m2 : Boxed W (n₀ + 1) 35 (.slice Ae s.2.length ce)) (m3 : Kd.R (Kd.int .i64) 3 W n₀ (fun g => g ≠ B) (.slice At s.1.length ct) s.1) (m4 : W.ownsRow n₀ 40 1 (.slice Ae s.2.length ce) s.2.length ps)
    (g2 : hunt_Run.Steps (i : Int) s1 (pre.map (·.2)) s) (g3 : s.1.length ≤ i * 1000 + pre.length) (g4 : Below n₀ w1 W) (g5 : ∀ D ∈ ms, W.heap[D]? = some (Obj.deferred (some []))) (g6 : Boxed W B 3 (.int .i64 (i : Int))) (g7 : Boxed W (B + 1) 25 u) (hF : thresh_Find.f (s.1.length + 1) s.1 yy.2 = some (v : Int))
    (hM : hunt_Run.Mem W' n₀ n₀ (n₀ + 1) (fun g => g ≠ B) (Rg.put (i : Int) yy.2 v s)) (hk : Kept W W' (fun k => k = n₀ ∨ k = n₀ + 1 ∨ some k = (Value.slice At s.1.length ct).ownBlock ∨ some k = (Value.slice Ae s.2.length ce).ownBlock)) (hb : Below n₀ W W') :
    KeepsOthers W W' ∧ Back.Keeps n₀ (B + 1) W W' ∧ hunt_Run.I w1 B i ms u s1 (pre ++ [yy]) W' := by
  have own := Kd.own_of_R m3
  have tB : some B ≠ (Value.slice At s.1.length ct).ownBlock := fun e => m3.1 B e.symm rfl
  have hne : ∀ (b : Nat) (o : Obj), W.heap[b]? = some o → o.isCells = false → W'.heap[b]? = W.heap[b]? := by
    intro b o ho hn
    refine hk.2 b (Array.getElem?_eq_some_iff.1 ho).1 ?_
    rintro (rfl | rfl | h | h)
    · have h1 : W.heap[b]? = _ := m1
      rw [ho] at h1; cases h1; cases hn
    · have h1 : W.heap[n₀ + 1]? = _ := m2
      rw [ho] at h1; cases h1; cases hn
    · rcases own.2 with ⟨q, _⟩ | ⟨g, cap, cur, q, _, hg, _⟩
      · rw [q] at h; cases h
      · have e : some b = some g := by rw [q] at h; exact h
        injection e with e
        rw [← e, ho] at hg; cases hg; cases hn
    · rcases m4.2 with ⟨q, _⟩ | ⟨g, cap, cur, q, _, hg, _⟩
      · rw [q] at h; cases h
      · have e : some b = some g := by rw [q] at h; exact h
        injection e with e
        rw [← e, ho] at hg; cases hg; cases hn
  have h6 : W'.heap[B]? = W.heap[B]? := hk.2 B g6.lt (by
    rintro (h | h | h | h)
    · omega
    · omega
    · exact tB h
    · exact Ev.own_ne m4 g6 (by decide) h)
  have h7 : W'.heap[B + 1]? = W.heap[B + 1]? := hk.2 (B + 1) g7.lt (by
    rintro (h | h | h | h)
    · omega
    · omega
    · exact Ev.own_ne own g7 (by decide) h
    · exact Ev.own_ne m4 g7 (by decide) h)
  refine ⟨⟨hk.1, fun k o ho hn => (hne k o ho hn).trans ho⟩, ⟨fun k hk2 => hk.2 k (by have := m1.lt; omega) ?_, h7⟩, Rg.put (i : Int) yy.2 v s, ?_, ?_, ?_, ?_, ?_, h6.trans g6, h7.trans g7⟩
  · rintro (h | h | h | h)
    · omega
    · omega
    · have := (own.lt k h.symm).1; omega
    · have := (m4.lt k h.symm).1; omega
  · rw [← hn]; exact hM
  · rw [List.map_append]; exact hunt_Run.Steps.snoc g2 (Rg.put_step hF)
  · have := @Rg.put_len (i : Int) yy.2 v s
    rw [List.length_append, List.length_singleton]; omega
  · rw [← hn]; exact g4.trans hb
  · intro D hD
    exact (hne D _ (g5 D hD) rfl).trans (g5 D hD)
/-- An act that kept the slots below 32 but for some, and its deferred calls. -/
def Ev.Stay (L : List Nat) (a a' : Act) : Prop := a'.tmps.size = a.tmps.size ∧ a'.defers = a.defers ∧ ∀ M, M < 32 → M ∉ L → a'.eval (.tmp M) = a.eval (.tmp M)
theorem Ev.Stay.refl (L : List Nat) (a : Act) : Ev.Stay L a a := ⟨rfl, rfl, fun _ _ _ => rfl⟩
theorem Ev.Stay.put {L : List Nat} {a a' : Act} {T : Nat} (h : Ev.Stay L a a') (hT : (decide (32 ≤ T) || decide (T ∈ L)) = true) (v : Value) : Ev.Stay L a (a'.put (some T) v) := by
  refine ⟨by rw [Ev.size]; exact h.1, h.2.1, fun M h1 h2 => ?_⟩
  rw [Ev.other]
  · exact h.2.2 M h1 h2
  · simp only [Bool.or_eq_true, decide_eq_true_eq] at hT
    rintro rfl
    rcases hT with hT | hT
    · omega
    · exact h2 hT
theorem Ev.Stay.trans {L L' : List Nat} {a b c : Act} (h : Ev.Stay L a b) (k : Ev.Stay L' b c) (hL : ∀ M, M ∈ L → M ∈ L') : Ev.Stay L' a c := ⟨k.1.trans h.1, k.2.1.trans h.2.1, fun M h1 h2 => (k.2.2 M h1 h2).trans (h.2.2 M h1 (fun q => h2 (hL M q)))⟩
section
variable {P : Program} {ops : Array Oper} {rest : List Oper} {o : Oper} {a : Act} {W W' : World} {Q : Exit → Act → World → Prop}
theorem Ev.pv {N : Tmp} {v : Value} (hr : (execOp a.eval o).run P W = .ok (.value v) W') (hg : o.guard = none) (hd : o.dst = some N) (h : wpList P ops Q rest (a.put (some N) v) W') : wpList P ops Q (o :: rest) a W :=
  wpList_plain hg fun K hK => Ev.made hd hr (hK _ _ h)
theorem Ev.pc {N : Tmp} {f : FuncId} {args : Array Value} (hr : (execOp a.eval o).run P W = .ok (.enter f args) W) (hg : o.guard = none) (hd : o.dst = some N) (hc : Calls P f args W (fun e w' => ∃ v, e = .returned v ∧ wpList P ops Q rest (a.put (some N) v) w')) : wpList P ops Q (o :: rest) a W := by
  refine wpList_plain hg fun K hK => ?_
  unfold Oper.wp
  rw [hr, Oper.upon_enter]
  refine hc.mono ?_
  rintro e w' ⟨v, rfl, h⟩
  show K (a.put o.dst v) w'
  rw [hd]; exact hK _ _ h
end
theorem Rg.r17 {id : Nat} {Q : Exit → Act → World → Prop} {a : Act} {W : World} 
    (hsz : a.tmps.size = 99) 
    (hQ : ∀ a', Ev.Stay [15] a a' → a'.eval (.tmp 15) = .slice none 0 0 → Q .normal a' W) : (Code.region id (Rg.ops 17) false).wp Try.prog Q a W := by
  refine wp_region_list ?_
  show wpList _ _ _ (_ :: []) _ _
  have k0 : Ev.Stay [15] a a := Ev.Stay.refl [15] a
  refine Ev.pv (N := 15) (v := .slice none 0 0) (W' := W) ?_ rfl rfl ?_
  · have ec : a.eval (.const (.slice none 0 0)) = .slice none 0 0 := rfl
    unfold execOp
    generalize a.eval = ev at *
    go_simp
  obtain ⟨a1, ha1⟩ : ∃ z_, z_ = a.put (some 15) (.slice none 0 0) := ⟨_, rfl⟩
  have k1 : Ev.Stay [15] a a1 := by rw [ha1]; exact k0.put (by decide) _
  have e1_15 : a1.eval (.tmp 15) = .slice none 0 0 := by rw [ha1, Ev.same (by rw [k0.1, hsz]; decide)]
  rw [← ha1]
  clear ha1 
  exact hQ _ k1 e1_15
theorem Rg.r18 {id : Nat} {Q : Exit → Act → World → Prop} {a : Act} {W : World} {B ne ce : Nat} {Ae : Option Addr}
    (hsz : a.tmps.size = 99) (h8 : a.eval (.tmp 8) = .pointer (some ⟨B, 0, none⟩)) (m2 : Boxed W B 35 (.slice Ae ne ce))
    (hQ : ∀ a', Ev.Stay [] a a' → a'.eval (.tmp 73) = .bool (decide (0 < ne)) → Q .normal a' W) : (Code.region id (Rg.ops 18) false).wp Try.prog Q a W := by
  refine wp_region_list ?_
  show wpList _ _ _ (_ :: _ :: _ :: []) _ _
  have k0 : Ev.Stay [] a a := Ev.Stay.refl [] a
  have hc := m2.cell
  refine Ev.pv (N := 71) (v := .slice Ae ne ce) (W' := W) ?_ rfl rfl ?_
  · unfold execOp
    generalize a.eval = ev at *
    go_simp
  obtain ⟨a1, ha1⟩ : ∃ z_, z_ = a.put (some 71) (.slice Ae ne ce) := ⟨_, rfl⟩
  have k1 : Ev.Stay [] a a1 := by rw [ha1]; exact k0.put (by decide) _
  have e1_8 : a1.eval (.tmp 8) = .pointer (some ⟨B, 0, none⟩) := by rw [ha1, Ev.other (by decide)]; exact h8
  have e1_71 : a1.eval (.tmp 71) = .slice Ae ne ce := by rw [ha1, Ev.same (by rw [k0.1, hsz]; decide)]
  rw [← ha1]
  clear ha1 
  clear e1_8
  clear hc
  refine Ev.pv (N := 72) (v := .int .i64 (ne : Int)) (W' := W) ?_ rfl rfl ?_
  · unfold execOp
    generalize a1.eval = ev at *
    go_simp
  obtain ⟨a2, ha2⟩ : ∃ z_, z_ = a1.put (some 72) (.int .i64 (ne : Int)) := ⟨_, rfl⟩
  have k2 : Ev.Stay [] a a2 := by rw [ha2]; exact k1.put (by decide) _
  have e2_71 : a2.eval (.tmp 71) = .slice Ae ne ce := by rw [ha2, Ev.other (by decide)]; exact e1_71
  have e2_72 : a2.eval (.tmp 72) = .int .i64 (ne : Int) := by rw [ha2, Ev.same (by rw [k1.1, hsz]; decide)]
  rw [← ha2]
  clear ha2 e1_71
  clear e2_71
  refine Ev.pv (N := 73) (v := .bool (decide (0 < ne))) (W' := W) ?_ rfl rfl ?_
  · have ec : a2.eval (.const (.int .i64 0)) = .int .i64 0 := rfl
    unfold execOp
    generalize a2.eval = ev at *
    (first | (go_simp; done) | (go_simp; simp))
  obtain ⟨a3, ha3⟩ : ∃ z_, z_ = a2.put (some 73) (.bool (decide (0 < ne))) := ⟨_, rfl⟩
  have k3 : Ev.Stay [] a a3 := by rw [ha3]; exact k2.put (by decide) _
  have e3_72 : a3.eval (.tmp 72) = .int .i64 (ne : Int) := by rw [ha3, Ev.other (by decide)]; exact e2_72
  have e3_73 : a3.eval (.tmp 73) = .bool (decide (0 < ne)) := by rw [ha3, Ev.same (by rw [k2.1, hsz]; decide)]
  rw [← ha3]
  clear ha3 e2_72
  exact hQ _ k3 e3_73
theorem Rg.r19 {id : Nat} {Q : Exit → Act → World → Prop} {a : Act} {W : World} {B n₀ ne ce : Nat} {Ae q : Option Addr} {ps : List Value}
    (hsz : a.tmps.size = 99) (h8 : a.eval (.tmp 8) = .pointer (some ⟨B, 0, none⟩)) (m2 : Boxed W B 35 (.slice Ae ne ce)) (m4 : W.ownsRow n₀ 40 1 (.slice Ae ne ce) ne ps) (h0 : 0 < ne) (hne : ne ≤ 2000000) (hq : ps[ne - 1]? = some (.pointer q))
    (hQ : ∀ a', Ev.Stay [16] a a' → a'.eval (.tmp 16) = .pointer q → Q .normal a' W) : (Code.region id (Rg.ops 19) false).wp Try.prog Q a W := by
  refine wp_region_list ?_
  show wpList _ _ _ (_ :: _ :: _ :: _ :: _ :: _ :: _ :: []) _ _
  have k0 : Ev.Stay [16] a a := Ev.Stay.refl [16] a
  obtain ⟨g, rfl, hg, hl⟩ := Ev.own_some m4 (by omega)
  have hcell : W.cell? ⟨g, ne - 1, none⟩ = some (.pointer q) := by
    have := m4.cells (g := g) rfl (ne - 1) _ hq
    rwa [add_plain] at this
  have hc := m2.cell
  refine Ev.pv (N := 74) (v := .slice (some ⟨g, 0, none⟩) ne ce) (W' := W) ?_ rfl rfl ?_
  · unfold execOp
    generalize a.eval = ev at *
    go_simp
  obtain ⟨a1, ha1⟩ : ∃ z_, z_ = a.put (some 74) (.slice (some ⟨g, 0, none⟩) ne ce) := ⟨_, rfl⟩
  have k1 : Ev.Stay [16] a a1 := by rw [ha1]; exact k0.put (by decide) _
  have e1_8 : a1.eval (.tmp 8) = .pointer (some ⟨B, 0, none⟩) := by rw [ha1, Ev.other (by decide)]; exact h8
  have e1_74 : a1.eval (.tmp 74) = .slice (some ⟨g, 0, none⟩) ne ce := by rw [ha1, Ev.same (by rw [k0.1, hsz]; decide)]
  rw [← ha1]
  clear ha1 
  refine Ev.pv (N := 75) (v := .slice (some ⟨g, 0, none⟩) ne ce) (W' := W) ?_ rfl rfl ?_
  · unfold execOp
    generalize a1.eval = ev at *
    go_simp
  obtain ⟨a2, ha2⟩ : ∃ z_, z_ = a1.put (some 75) (.slice (some ⟨g, 0, none⟩) ne ce) := ⟨_, rfl⟩
  have k2 : Ev.Stay [16] a a2 := by rw [ha2]; exact k1.put (by decide) _
  have e2_8 : a2.eval (.tmp 8) = .pointer (some ⟨B, 0, none⟩) := by rw [ha2, Ev.other (by decide)]; exact e1_8
  have e2_74 : a2.eval (.tmp 74) = .slice (some ⟨g, 0, none⟩) ne ce := by rw [ha2, Ev.other (by decide)]; exact e1_74
  have e2_75 : a2.eval (.tmp 75) = .slice (some ⟨g, 0, none⟩) ne ce := by rw [ha2, Ev.same (by rw [k1.1, hsz]; decide)]
  rw [← ha2]
  clear ha2 e1_8 e1_74
  clear e2_8
  clear hc
  refine Ev.pv (N := 76) (v := .int .i64 (ne : Int)) (W' := W) ?_ rfl rfl ?_
  · unfold execOp
    generalize a2.eval = ev at *
    go_simp
  obtain ⟨a3, ha3⟩ : ∃ z_, z_ = a2.put (some 76) (.int .i64 (ne : Int)) := ⟨_, rfl⟩
  have k3 : Ev.Stay [16] a a3 := by rw [ha3]; exact k2.put (by decide) _
  have e3_74 : a3.eval (.tmp 74) = .slice (some ⟨g, 0, none⟩) ne ce := by rw [ha3, Ev.other (by decide)]; exact e2_74
  have e3_75 : a3.eval (.tmp 75) = .slice (some ⟨g, 0, none⟩) ne ce := by rw [ha3, Ev.other (by decide)]; exact e2_75
  have e3_76 : a3.eval (.tmp 76) = .int .i64 (ne : Int) := by rw [ha3, Ev.same (by rw [k2.1, hsz]; decide)]
  rw [← ha3]
  clear ha3 e2_74 e2_75
  clear e3_75
  have ew : wrap64 ((ne : Int) - 1) = ((ne - 1 : Nat) : Int) := by unfold wrap64; omega
  refine Ev.pv (N := 77) (v := .int .i64 ((ne - 1 : Nat) : Int)) (W' := W) ?_ rfl rfl ?_
  · have ec : a3.eval (.const (.int .i64 1)) = .int .i64 1 := rfl
    unfold execOp
    generalize a3.eval = ev at *
    (go_simp; first | exact ew | (rw [IntWalk.i64_in _ (by omega)]; omega) | (simp [IntKind.wrap, IntKind.signed, IntKind.bits]; omega))
  obtain ⟨a4, ha4⟩ : ∃ z_, z_ = a3.put (some 77) (.int .i64 ((ne - 1 : Nat) : Int)) := ⟨_, rfl⟩
  have k4 : Ev.Stay [16] a a4 := by rw [ha4]; exact k3.put (by decide) _
  have e4_74 : a4.eval (.tmp 74) = .slice (some ⟨g, 0, none⟩) ne ce := by rw [ha4, Ev.other (by decide)]; exact e3_74
  have e4_76 : a4.eval (.tmp 76) = .int .i64 (ne : Int) := by rw [ha4, Ev.other (by decide)]; exact e3_76
  have e4_77 : a4.eval (.tmp 77) = .int .i64 ((ne - 1 : Nat) : Int) := by rw [ha4, Ev.same (by rw [k3.1, hsz]; decide)]
  rw [← ha4]
  clear ha4 e3_74 e3_76
  clear e4_76
  clear ew
  have hlt : ne - 1 < ne := by omega
  refine Ev.pv (N := 78) (v := .pointer (some ⟨g, ne - 1, none⟩)) (W' := W) ?_ rfl rfl ?_
  · unfold execOp
    generalize a4.eval = ev at *
    go_simp
  obtain ⟨a5, ha5⟩ : ∃ z_, z_ = a4.put (some 78) (.pointer (some ⟨g, ne - 1, none⟩)) := ⟨_, rfl⟩
  have k5 : Ev.Stay [16] a a5 := by rw [ha5]; exact k4.put (by decide) _
  have e5_74 : a5.eval (.tmp 74) = .slice (some ⟨g, 0, none⟩) ne ce := by rw [ha5, Ev.other (by decide)]; exact e4_74
  have e5_77 : a5.eval (.tmp 77) = .int .i64 ((ne - 1 : Nat) : Int) := by rw [ha5, Ev.other (by decide)]; exact e4_77
  have e5_78 : a5.eval (.tmp 78) = .pointer (some ⟨g, ne - 1, none⟩) := by rw [ha5, Ev.same (by rw [k4.1, hsz]; decide)]
  rw [← ha5]
  clear ha5 e4_74 e4_77
  clear e5_74
  clear e5_77
  refine Ev.pv (N := 79) (v := .pointer q) (W' := W) ?_ rfl rfl ?_
  · unfold execOp
    generalize a5.eval = ev at *
    go_simp
  obtain ⟨a6, ha6⟩ : ∃ z_, z_ = a5.put (some 79) (.pointer q) := ⟨_, rfl⟩
  have k6 : Ev.Stay [16] a a6 := by rw [ha6]; exact k5.put (by decide) _
  have e6_78 : a6.eval (.tmp 78) = .pointer (some ⟨g, ne - 1, none⟩) := by rw [ha6, Ev.other (by decide)]; exact e5_78
  have e6_79 : a6.eval (.tmp 79) = .pointer q := by rw [ha6, Ev.same (by rw [k5.1, hsz]; decide)]
  rw [← ha6]
  clear ha6 e5_78
  clear e6_78
  refine Ev.pv (N := 16) (v := .pointer q) (W' := W) ?_ rfl rfl ?_
  · unfold execOp
    generalize a6.eval = ev at *
    go_simp
  obtain ⟨a7, ha7⟩ : ∃ z_, z_ = a6.put (some 16) (.pointer q) := ⟨_, rfl⟩
  have k7 : Ev.Stay [16] a a7 := by rw [ha7]; exact k6.put (by decide) _
  have e7_79 : a7.eval (.tmp 79) = .pointer q := by rw [ha7, Ev.other (by decide)]; exact e6_79
  have e7_16 : a7.eval (.tmp 16) = .pointer q := by rw [ha7, Ev.same (by rw [k6.1, hsz]; decide)]
  rw [← ha7]
  clear ha7 e6_79
  exact hQ _ k7 e7_16
theorem Rg.r20n {id : Nat} {Q : Exit → Act → World → Prop} {a : Act} {W : World} 
    (hsz : a.tmps.size = 99) (h16 : a.eval (.tmp 16) = .pointer (none))
    (hQ : ∀ a', Ev.Stay [] a a' → a'.eval (.tmp 81) = .bool false → Q .normal a' W) : (Code.region id (Rg.ops 20) false).wp Try.prog Q a W := by
  refine wp_region_list ?_
  show wpList _ _ _ (_ :: _ :: []) _ _
  have k0 : Ev.Stay [] a a := Ev.Stay.refl [] a
  refine Ev.pv (N := 80) (v := .pointer (none)) (W' := W) ?_ rfl rfl ?_
  · unfold execOp
    generalize a.eval = ev at *
    go_simp
  obtain ⟨a1, ha1⟩ : ∃ z_, z_ = a.put (some 80) (.pointer (none)) := ⟨_, rfl⟩
  have k1 : Ev.Stay [] a a1 := by rw [ha1]; exact k0.put (by decide) _
  have e1_16 : a1.eval (.tmp 16) = .pointer (none) := by rw [ha1, Ev.other (by decide)]; exact h16
  have e1_80 : a1.eval (.tmp 80) = .pointer (none) := by rw [ha1, Ev.same (by rw [k0.1, hsz]; decide)]
  rw [← ha1]
  clear ha1 
  clear e1_16
  refine Ev.pv (N := 81) (v := .bool false) (W' := W) ?_ rfl rfl ?_
  · have ec : a1.eval (.const (.pointer none)) = .pointer none := rfl
    unfold execOp
    generalize a1.eval = ev at *
    go_simp
  obtain ⟨a2, ha2⟩ : ∃ z_, z_ = a1.put (some 81) (.bool false) := ⟨_, rfl⟩
  have k2 : Ev.Stay [] a a2 := by rw [ha2]; exact k1.put (by decide) _
  have e2_80 : a2.eval (.tmp 80) = .pointer (none) := by rw [ha2, Ev.other (by decide)]; exact e1_80
  have e2_81 : a2.eval (.tmp 81) = .bool false := by rw [ha2, Ev.same (by rw [k1.1, hsz]; decide)]
  rw [← ha2]
  clear ha2 e1_80
  exact hQ _ k2 e2_81
theorem Rg.r20s {id : Nat} {Q : Exit → Act → World → Prop} {a : Act} {W : World} {b : Addr}
    (hsz : a.tmps.size = 99) (h16 : a.eval (.tmp 16) = .pointer (some b))
    (hQ : ∀ a', Ev.Stay [] a a' → a'.eval (.tmp 81) = .bool true → Q .normal a' W) : (Code.region id (Rg.ops 20) false).wp Try.prog Q a W := by
  refine wp_region_list ?_
  show wpList _ _ _ (_ :: _ :: []) _ _
  have k0 : Ev.Stay [] a a := Ev.Stay.refl [] a
  refine Ev.pv (N := 80) (v := .pointer (some b)) (W' := W) ?_ rfl rfl ?_
  · unfold execOp
    generalize a.eval = ev at *
    go_simp
  obtain ⟨a1, ha1⟩ : ∃ z_, z_ = a.put (some 80) (.pointer (some b)) := ⟨_, rfl⟩
  have k1 : Ev.Stay [] a a1 := by rw [ha1]; exact k0.put (by decide) _
  have e1_16 : a1.eval (.tmp 16) = .pointer (some b) := by rw [ha1, Ev.other (by decide)]; exact h16
  have e1_80 : a1.eval (.tmp 80) = .pointer (some b) := by rw [ha1, Ev.same (by rw [k0.1, hsz]; decide)]
  rw [← ha1]
  clear ha1 
  clear e1_16
  refine Ev.pv (N := 81) (v := .bool true) (W' := W) ?_ rfl rfl ?_
  · have ec : a1.eval (.const (.pointer none)) = .pointer none := rfl
    unfold execOp
    generalize a1.eval = ev at *
    go_simp
  obtain ⟨a2, ha2⟩ : ∃ z_, z_ = a1.put (some 81) (.bool true) := ⟨_, rfl⟩
  have k2 : Ev.Stay [] a a2 := by rw [ha2]; exact k1.put (by decide) _
  have e2_80 : a2.eval (.tmp 80) = .pointer (some b) := by rw [ha2, Ev.other (by decide)]; exact e1_80
  have e2_81 : a2.eval (.tmp 81) = .bool true := by rw [ha2, Ev.same (by rw [k1.1, hsz]; decide)]
  rw [← ha2]
  clear ha2 e1_80
  exact hQ _ k2 e2_81
theorem Ev.cells44 {W : World} {b : Nat} {x y q : Value} (h : W.heap[b]? = some (.cells #[x, y, q] 44 (0, 0))) : W.cell? ⟨b, 0, none⟩ = some x ∧ W.cell? ⟨b, 1, none⟩ = some y ∧ W.cell? ⟨b, 2, none⟩ = some q := by
  refine ⟨?_, ?_, ?_⟩ <;> simp [World.cell?, h]
theorem Rg.info42 : ∃ i : TypeInfo, Try.prog.info? 42 = some i ∧ i.zero = some (.agg #[.int .i64 0, .int .i64 0]) ∧ i.size = 2 ∧ i.bytes = 16 := by
  have h : (Try.prog.info? 42).map (fun i => (i.zero, i.size, i.bytes)) = some (some (.agg #[.int .i64 0, .int .i64 0]), 2, 16) := by kernel_rfl
  obtain ⟨i, hi, h0, h1, h2⟩ := info_parts h
  exact ⟨i, hi, h0, h1, h2⟩
theorem Rg.cells2 (w : World) (x y : Value) (t : TypeId) : ∀ j u, [x, y][j]? = some u → (w.alloc (.cells #[x, y] t)).cell? ((⟨w.heap.size, 0, none⟩ : Addr).add j) = some u := by
  intro j u hj
  have hb : (w.alloc (.cells #[x, y] t)).heap[w.heap.size]? = some (.cells #[x, y] t (0, 0)) := blk_new w _
  match j, hj with
  | 0, hj => simp at hj; subst hj; exact (blk_cell hb 0).trans rfl
  | 1, hj => simp at hj; subst hj; exact (blk_cell hb 1).trans rfl
  | j + 2, hj => simp at hj
theorem Rg.r22 {id : Nat} {Q : Exit → Act → World → Prop} {a : Act} {W : World} {b nb m : Nat} {x y : Int} {q v : Value} {xs : List Value}
    (hsz : a.tmps.size = 99) (h15 : a.eval (.tmp 15) = v) (h16 : a.eval (.tmp 16) = .pointer (some ⟨b, 0, none⟩)) (hb : W.heap[b]? = some (.cells #[.int .i64 x, .int .i64 y, q] 44 (0, 0))) (hown : W.ownsRow nb 42 2 v m xs) (hm : m ≤ 2000000) (hnb : nb ≤ W.heap.size)
    (hQ : ∀ a' v' W', Ev.Stay [15] a a' → a'.eval (.tmp 15) = v' → W'.ownsRow nb 42 2 v' (m + 1) (xs ++ [.int .i64 x, .int .i64 y]) → Kept W W' (fun k => some k = v.ownBlock) → Below nb W W' → Q .normal a' W') : (Code.region id (Rg.ops 22) false).wp Try.prog Q a W := by
  refine wp_region_list ?_
  show wpList _ _ _ (_ :: _ :: _ :: _ :: _ :: _ :: _ :: _ :: []) _ _
  have k0 : Ev.Stay [15] a a := Ev.Stay.refl [15] a
  obtain ⟨hx, hy, _⟩ := Ev.cells44 hb
  refine Ev.pv (N := 86) (v := v) (W' := W) ?_ rfl rfl ?_
  · unfold execOp
    generalize a.eval = ev at *
    (simp [go_sem, *])
  obtain ⟨a1, ha1⟩ : ∃ z_, z_ = a.put (some 86) (v) := ⟨_, rfl⟩
  have k1 : Ev.Stay [15] a a1 := by rw [ha1]; exact k0.put (by decide) _
  have e1_15 : a1.eval (.tmp 15) = v := by rw [ha1, Ev.other (by decide)]; exact h15
  have e1_16 : a1.eval (.tmp 16) = .pointer (some ⟨b, 0, none⟩) := by rw [ha1, Ev.other (by decide)]; exact h16
  have e1_86 : a1.eval (.tmp 86) = v := by rw [ha1, Ev.same (by rw [k0.1, hsz]; decide)]
  rw [← ha1]
  clear ha1 
  clear e1_15
  refine Ev.pv (N := 87) (v := .pointer (some ⟨b, 0, none⟩)) (W' := W) ?_ rfl rfl ?_
  · unfold execOp
    generalize a1.eval = ev at *
    go_simp
  obtain ⟨a2, ha2⟩ : ∃ z_, z_ = a1.put (some 87) (.pointer (some ⟨b, 0, none⟩)) := ⟨_, rfl⟩
  have k2 : Ev.Stay [15] a a2 := by rw [ha2]; exact k1.put (by decide) _
  have e2_16 : a2.eval (.tmp 16) = .pointer (some ⟨b, 0, none⟩) := by rw [ha2, Ev.other (by decide)]; exact e1_16
  have e2_86 : a2.eval (.tmp 86) = v := by rw [ha2, Ev.other (by decide)]; exact e1_86
  have e2_87 : a2.eval (.tmp 87) = .pointer (some ⟨b, 0, none⟩) := by rw [ha2, Ev.same (by rw [k1.1, hsz]; decide)]
  rw [← ha2]
  clear ha2 e1_16 e1_86
  clear e2_16
  refine Ev.pv (N := 88) (v := .pointer (some ⟨b, 0, none⟩)) (W' := W) ?_ rfl rfl ?_
  · unfold execOp
    generalize a2.eval = ev at *
    go_simp
  obtain ⟨a3, ha3⟩ : ∃ z_, z_ = a2.put (some 88) (.pointer (some ⟨b, 0, none⟩)) := ⟨_, rfl⟩
  have k3 : Ev.Stay [15] a a3 := by rw [ha3]; exact k2.put (by decide) _
  have e3_86 : a3.eval (.tmp 86) = v := by rw [ha3, Ev.other (by decide)]; exact e2_86
  have e3_87 : a3.eval (.tmp 87) = .pointer (some ⟨b, 0, none⟩) := by rw [ha3, Ev.other (by decide)]; exact e2_87
  have e3_88 : a3.eval (.tmp 88) = .pointer (some ⟨b, 0, none⟩) := by rw [ha3, Ev.same (by rw [k2.1, hsz]; decide)]
  rw [← ha3]
  clear ha3 e2_86 e2_87
  clear e3_87
  refine Ev.pv (N := 89) (v := .pointer (some ⟨b, 0, none⟩)) (W' := W) ?_ rfl rfl ?_
  · unfold execOp
    generalize a3.eval = ev at *
    go_simp
  obtain ⟨a4, ha4⟩ : ∃ z_, z_ = a3.put (some 89) (.pointer (some ⟨b, 0, none⟩)) := ⟨_, rfl⟩
  have k4 : Ev.Stay [15] a a4 := by rw [ha4]; exact k3.put (by decide) _
  have e4_86 : a4.eval (.tmp 86) = v := by rw [ha4, Ev.other (by decide)]; exact e3_86
  have e4_88 : a4.eval (.tmp 88) = .pointer (some ⟨b, 0, none⟩) := by rw [ha4, Ev.other (by decide)]; exact e3_88
  have e4_89 : a4.eval (.tmp 89) = .pointer (some ⟨b, 0, none⟩) := by rw [ha4, Ev.same (by rw [k3.1, hsz]; decide)]
  rw [← ha4]
  clear ha4 e3_86 e3_88
  clear e4_88
  refine Ev.pv (N := 90) (v := .agg #[.int .i64 x, .int .i64 y]) (W' := W) ?_ rfl rfl ?_
  · unfold execOp
    generalize a4.eval = ev at *
    go_simp
  obtain ⟨a5, ha5⟩ : ∃ z_, z_ = a4.put (some 90) (.agg #[.int .i64 x, .int .i64 y]) := ⟨_, rfl⟩
  have k5 : Ev.Stay [15] a a5 := by rw [ha5]; exact k4.put (by decide) _
  have e5_86 : a5.eval (.tmp 86) = v := by rw [ha5, Ev.other (by decide)]; exact e4_86
  have e5_89 : a5.eval (.tmp 89) = .pointer (some ⟨b, 0, none⟩) := by rw [ha5, Ev.other (by decide)]; exact e4_89
  have e5_90 : a5.eval (.tmp 90) = .agg #[.int .i64 x, .int .i64 y] := by rw [ha5, Ev.same (by rw [k4.1, hsz]; decide)]
  rw [← ha5]
  clear ha5 e4_86 e4_89
  clear e5_89
  refine Ev.pv (N := 91) (v := .slice (some ⟨W.heap.size, 0, none⟩) 1 1) (W' := W.alloc (.cells #[.int .i64 x, .int .i64 y] 42)) ?_ rfl rfl ?_
  · unfold execOp
    generalize a5.eval = ev at *
    go_simp
  obtain ⟨a6, ha6⟩ : ∃ z_, z_ = a5.put (some 91) (.slice (some ⟨W.heap.size, 0, none⟩) 1 1) := ⟨_, rfl⟩
  have k6 : Ev.Stay [15] a a6 := by rw [ha6]; exact k5.put (by decide) _
  have e6_86 : a6.eval (.tmp 86) = v := by rw [ha6, Ev.other (by decide)]; exact e5_86
  have e6_90 : a6.eval (.tmp 90) = .agg #[.int .i64 x, .int .i64 y] := by rw [ha6, Ev.other (by decide)]; exact e5_90
  have e6_91 : a6.eval (.tmp 91) = .slice (some ⟨W.heap.size, 0, none⟩) 1 1 := by rw [ha6, Ev.same (by rw [k5.1, hsz]; decide)]
  rw [← ha6]
  clear ha6 e5_86 e5_90
  clear e6_90
  clear hx hy
  refine wpList_append_own_at _ rfl (.tmp 86) (.tmp 91) 22 rfl nb 42 _ (.agg #[.int .i64 0, .int .i64 0]) 2 16 Try.underlying22 (Rg.info42).choose_spec.1 (Rg.info42).choose_spec.2.1 (Rg.info42).choose_spec.2.2.1 (Rg.info42).choose_spec.2.2.2 rfl (by decide) v m xs e6_86 (hown.alloc _) ⟨W.heap.size, 0, none⟩ 1 1 [.int .i64 x, .int .i64 y] e6_91 rfl (Rg.cells2 W _ _ 42) (by simp [Value.oneCell']) (by unfold maxLen; omega) (by omega) (by rw [World.size_alloc]; omega) ?_
  intro v' w' ho hg _ hat
  have kk : Kept W w' (fun k => some k = v.ownBlock) := ((Kept.refl W _).alloc _).of_grown hg (fun k hk => Or.inl hk.symm)
  have bb : Below nb W w' := ((Below.refl nb W).alloc hnb _).grown hg (by rw [World.size_alloc]; omega) (fun k hk => (hown.lt k hk).1)
  obtain ⟨a7, ha7⟩ : ∃ z_, z_ = a6.put (some 92) (v') := ⟨_, rfl⟩
  have k7 : Ev.Stay [15] a a7 := by rw [ha7]; exact k6.put (by decide) _
  have e7_86 : a7.eval (.tmp 86) = v := by rw [ha7, Ev.other (by decide)]; exact e6_86
  have e7_91 : a7.eval (.tmp 91) = .slice (some ⟨W.heap.size, 0, none⟩) 1 1 := by rw [ha7, Ev.other (by decide)]; exact e6_91
  have e7_92 : a7.eval (.tmp 92) = v' := by rw [ha7, Ev.same (by rw [k6.1, hsz]; decide)]
  rw [← ha7]
  clear ha7 e6_86 e6_91
  refine Ev.pv (N := 15) (v := v') (W' := w') ?_ rfl rfl ?_
  · unfold execOp
    generalize a7.eval = ev at *
    (simp [go_sem, *])
  obtain ⟨a8, ha8⟩ : ∃ z_, z_ = a7.put (some 15) (v') := ⟨_, rfl⟩
  have k8 : Ev.Stay [15] a a8 := by rw [ha8]; exact k7.put (by decide) _
  have e8_86 : a8.eval (.tmp 86) = v := by rw [ha8, Ev.other (by decide)]; exact e7_86
  have e8_91 : a8.eval (.tmp 91) = .slice (some ⟨W.heap.size, 0, none⟩) 1 1 := by rw [ha8, Ev.other (by decide)]; exact e7_91
  have e8_92 : a8.eval (.tmp 92) = v' := by rw [ha8, Ev.other (by decide)]; exact e7_92
  have e8_15 : a8.eval (.tmp 15) = v' := by rw [ha8, Ev.same (by rw [k7.1, hsz]; decide)]
  rw [← ha8]
  clear ha8 e7_86 e7_91 e7_92
  exact hQ _ _ _ k8 e8_15 ho kk bb
theorem Rg.r21 {id : Nat} {Q : Exit → Act → World → Prop} {a : Act} {W : World} {b : Nat} {x y : Value} {q : Option Addr}
    (hsz : a.tmps.size = 99) (h16 : a.eval (.tmp 16) = .pointer (some ⟨b, 0, none⟩)) (hb : W.heap[b]? = some (.cells #[x, y, .pointer q] 44 (0, 0)))
    (hQ : ∀ a', Ev.Stay [16] a a' → a'.eval (.tmp 16) = .pointer q → Q .normal a' W) : (Code.region id (Rg.ops 21) false).wp Try.prog Q a W := by
  refine wp_region_list ?_
  show wpList _ _ _ (_ :: _ :: _ :: _ :: _ :: []) _ _
  have k0 : Ev.Stay [16] a a := Ev.Stay.refl [16] a
  obtain ⟨_, _, hq⟩ := Ev.cells44 hb
  refine Ev.pv (N := 82) (v := .pointer (some ⟨b, 0, none⟩)) (W' := W) ?_ rfl rfl ?_
  · unfold execOp
    generalize a.eval = ev at *
    go_simp
  obtain ⟨a1, ha1⟩ : ∃ z_, z_ = a.put (some 82) (.pointer (some ⟨b, 0, none⟩)) := ⟨_, rfl⟩
  have k1 : Ev.Stay [16] a a1 := by rw [ha1]; exact k0.put (by decide) _
  have e1_16 : a1.eval (.tmp 16) = .pointer (some ⟨b, 0, none⟩) := by rw [ha1, Ev.other (by decide)]; exact h16
  have e1_82 : a1.eval (.tmp 82) = .pointer (some ⟨b, 0, none⟩) := by rw [ha1, Ev.same (by rw [k0.1, hsz]; decide)]
  rw [← ha1]
  clear ha1 
  clear e1_16
  refine Ev.pv (N := 83) (v := .pointer (some ⟨b, 0, none⟩)) (W' := W) ?_ rfl rfl ?_
  · unfold execOp
    generalize a1.eval = ev at *
    go_simp
  obtain ⟨a2, ha2⟩ : ∃ z_, z_ = a1.put (some 83) (.pointer (some ⟨b, 0, none⟩)) := ⟨_, rfl⟩
  have k2 : Ev.Stay [16] a a2 := by rw [ha2]; exact k1.put (by decide) _
  have e2_82 : a2.eval (.tmp 82) = .pointer (some ⟨b, 0, none⟩) := by rw [ha2, Ev.other (by decide)]; exact e1_82
  have e2_83 : a2.eval (.tmp 83) = .pointer (some ⟨b, 0, none⟩) := by rw [ha2, Ev.same (by rw [k1.1, hsz]; decide)]
  rw [← ha2]
  clear ha2 e1_82
  clear e2_82
  refine Ev.pv (N := 84) (v := .pointer (some ⟨b, 2, none⟩)) (W' := W) ?_ rfl rfl ?_
  · unfold execOp
    generalize a2.eval = ev at *
    go_simp
  obtain ⟨a3, ha3⟩ : ∃ z_, z_ = a2.put (some 84) (.pointer (some ⟨b, 2, none⟩)) := ⟨_, rfl⟩
  have k3 : Ev.Stay [16] a a3 := by rw [ha3]; exact k2.put (by decide) _
  have e3_83 : a3.eval (.tmp 83) = .pointer (some ⟨b, 0, none⟩) := by rw [ha3, Ev.other (by decide)]; exact e2_83
  have e3_84 : a3.eval (.tmp 84) = .pointer (some ⟨b, 2, none⟩) := by rw [ha3, Ev.same (by rw [k2.1, hsz]; decide)]
  rw [← ha3]
  clear ha3 e2_83
  clear e3_83
  refine Ev.pv (N := 85) (v := .pointer q) (W' := W) ?_ rfl rfl ?_
  · unfold execOp
    generalize a3.eval = ev at *
    go_simp
  obtain ⟨a4, ha4⟩ : ∃ z_, z_ = a3.put (some 85) (.pointer q) := ⟨_, rfl⟩
  have k4 : Ev.Stay [16] a a4 := by rw [ha4]; exact k3.put (by decide) _
  have e4_84 : a4.eval (.tmp 84) = .pointer (some ⟨b, 2, none⟩) := by rw [ha4, Ev.other (by decide)]; exact e3_84
  have e4_85 : a4.eval (.tmp 85) = .pointer q := by rw [ha4, Ev.same (by rw [k3.1, hsz]; decide)]
  rw [← ha4]
  clear ha4 e3_84
  clear e4_84
  refine Ev.pv (N := 16) (v := .pointer q) (W' := W) ?_ rfl rfl ?_
  · unfold execOp
    generalize a4.eval = ev at *
    go_simp
  obtain ⟨a5, ha5⟩ : ∃ z_, z_ = a4.put (some 16) (.pointer q) := ⟨_, rfl⟩
  have k5 : Ev.Stay [16] a a5 := by rw [ha5]; exact k4.put (by decide) _
  have e5_85 : a5.eval (.tmp 85) = .pointer q := by rw [ha5, Ev.other (by decide)]; exact e4_85
  have e5_16 : a5.eval (.tmp 16) = .pointer q := by rw [ha5, Ev.same (by rw [k4.1, hsz]; decide)]
  rw [← ha5]
  clear ha5 e4_85
  exact hQ _ k5 e5_16
theorem Rg.r23 {id : Nat} {Q : Exit → Act → World → Prop} {a : Act} {W : World} {v : Value}
    (hsz : a.tmps.size = 99) (h15 : a.eval (.tmp 15) = v) {R : World → Prop} (hc : Calls Try.prog 21 #[v] W fun e w' => e = .returned (.tuple #[]) ∧ R w')
    (hQ : ∀ a' W', Ev.Stay [] a a' → R W' → Q .normal a' W') : (Code.region id (Rg.ops 23) false).wp Try.prog Q a W := by
  refine wp_region_list ?_
  show wpList _ _ _ (_ :: _ :: []) _ _
  have k0 : Ev.Stay [] a a := Ev.Stay.refl [] a
  refine Ev.pv (N := 93) (v := v) (W' := W) ?_ rfl rfl ?_
  · unfold execOp
    generalize a.eval = ev at *
    (simp [go_sem, *])
  obtain ⟨a1, ha1⟩ : ∃ z_, z_ = a.put (some 93) (v) := ⟨_, rfl⟩
  have k1 : Ev.Stay [] a a1 := by rw [ha1]; exact k0.put (by decide) _
  have e1_15 : a1.eval (.tmp 15) = v := by rw [ha1, Ev.other (by decide)]; exact h15
  have e1_93 : a1.eval (.tmp 93) = v := by rw [ha1, Ev.same (by rw [k0.1, hsz]; decide)]
  rw [← ha1]
  clear ha1 
  clear e1_15
  refine Ev.pc (N := 94) (f := 21) (args := #[v]) ?_ rfl rfl (hc.mono ?_)
  · have ef : a1.eval (.func 21) = .func (.func 21) #[] #[] := rfl
    unfold execOp
    generalize a1.eval = ev at *
    go_simp
  rintro e w' ⟨rfl, hR⟩
  refine ⟨_, rfl, ?_⟩
  exact hQ _ _ (k1.put (by decide) _) hR
theorem Rg.r24 {id : Nat} {Q : Exit → Act → World → Prop} {a : Act} {W : World} {v u0 u1 : Value} {x : Int}
    (hsz : a.tmps.size = 99) (h0 : a.eval (.tmp 0) = u0) (h1 : a.eval (.tmp 1) = u1) (h15 : a.eval (.tmp 15) = v) {R : World → Prop} (hc : Calls Try.prog 11 #[u0, u1] W fun e w' => e = .returned (.int .i64 x) ∧ R w')
    (hQ : ∀ a' W', Ev.Stay [4, 5] a a' → a'.eval (.tmp 4) = v → a'.eval (.tmp 5) = .int .i64 x → R W' → Q .normal a' W') : (Code.region id (Rg.ops 24) false).wp Try.prog Q a W := by
  refine wp_region_list ?_
  show wpList _ _ _ (_ :: _ :: _ :: _ :: _ :: _ :: []) _ _
  have k0 : Ev.Stay [4, 5] a a := Ev.Stay.refl [4, 5] a
  refine Ev.pv (N := 95) (v := v) (W' := W) ?_ rfl rfl ?_
  · unfold execOp
    generalize a.eval = ev at *
    (simp [go_sem, *])
  obtain ⟨a1, ha1⟩ : ∃ z_, z_ = a.put (some 95) (v) := ⟨_, rfl⟩
  have k1 : Ev.Stay [4, 5] a a1 := by rw [ha1]; exact k0.put (by decide) _
  have e1_0 : a1.eval (.tmp 0) = u0 := by rw [ha1, Ev.other (by decide)]; exact h0
  have e1_1 : a1.eval (.tmp 1) = u1 := by rw [ha1, Ev.other (by decide)]; exact h1
  have e1_15 : a1.eval (.tmp 15) = v := by rw [ha1, Ev.other (by decide)]; exact h15
  have e1_95 : a1.eval (.tmp 95) = v := by rw [ha1, Ev.same (by rw [k0.1, hsz]; decide)]
  rw [← ha1]
  clear ha1 
  clear e1_15
  refine Ev.pv (N := 96) (v := u0) (W' := W) ?_ rfl rfl ?_
  · unfold execOp
    generalize a1.eval = ev at *
    (simp [go_sem, *])
  obtain ⟨a2, ha2⟩ : ∃ z_, z_ = a1.put (some 96) (u0) := ⟨_, rfl⟩
  have k2 : Ev.Stay [4, 5] a a2 := by rw [ha2]; exact k1.put (by decide) _
  have e2_0 : a2.eval (.tmp 0) = u0 := by rw [ha2, Ev.other (by decide)]; exact e1_0
  have e2_1 : a2.eval (.tmp 1) = u1 := by rw [ha2, Ev.other (by decide)]; exact e1_1
  have e2_95 : a2.eval (.tmp 95) = v := by rw [ha2, Ev.other (by decide)]; exact e1_95
  have e2_96 : a2.eval (.tmp 96) = u0 := by rw [ha2, Ev.same (by rw [k1.1, hsz]; decide)]
  rw [← ha2]
  clear ha2 e1_0 e1_1 e1_95
  clear e2_0
  refine Ev.pv (N := 97) (v := u1) (W' := W) ?_ rfl rfl ?_
  · unfold execOp
    generalize a2.eval = ev at *
    (simp [go_sem, *])
  obtain ⟨a3, ha3⟩ : ∃ z_, z_ = a2.put (some 97) (u1) := ⟨_, rfl⟩
  have k3 : Ev.Stay [4, 5] a a3 := by rw [ha3]; exact k2.put (by decide) _
  have e3_1 : a3.eval (.tmp 1) = u1 := by rw [ha3, Ev.other (by decide)]; exact e2_1
  have e3_95 : a3.eval (.tmp 95) = v := by rw [ha3, Ev.other (by decide)]; exact e2_95
  have e3_96 : a3.eval (.tmp 96) = u0 := by rw [ha3, Ev.other (by decide)]; exact e2_96
  have e3_97 : a3.eval (.tmp 97) = u1 := by rw [ha3, Ev.same (by rw [k2.1, hsz]; decide)]
  rw [← ha3]
  clear ha3 e2_1 e2_95 e2_96
  clear e3_1
  refine Ev.pc (N := 98) (f := 11) (args := #[u0, u1]) ?_ rfl rfl (hc.mono ?_)
  · have ef : a3.eval (.func 11) = .func (.func 11) #[] #[] := rfl
    unfold execOp
    generalize a3.eval = ev at *
    go_simp
  rintro e w' ⟨rfl, hR⟩
  refine ⟨_, rfl, ?_⟩
  obtain ⟨a4, ha4⟩ : ∃ z_, z_ = a3.put (some 98) (.int .i64 x) := ⟨_, rfl⟩
  have k4 : Ev.Stay [4, 5] a a4 := by rw [ha4]; exact k3.put (by decide) _
  have e4_95 : a4.eval (.tmp 95) = v := by rw [ha4, Ev.other (by decide)]; exact e3_95
  have e4_96 : a4.eval (.tmp 96) = u0 := by rw [ha4, Ev.other (by decide)]; exact e3_96
  have e4_97 : a4.eval (.tmp 97) = u1 := by rw [ha4, Ev.other (by decide)]; exact e3_97
  have e4_98 : a4.eval (.tmp 98) = .int .i64 x := by rw [ha4, Ev.same (by rw [k3.1, hsz]; decide)]
  rw [← ha4]
  clear ha4 e3_95 e3_96 e3_97
  clear e4_96
  clear e4_97
  refine Ev.pv (N := 4) (v := v) (W' := w') ?_ rfl rfl ?_
  · unfold execOp
    generalize a4.eval = ev at *
    (simp [go_sem, *])
  obtain ⟨a5, ha5⟩ : ∃ z_, z_ = a4.put (some 4) (v) := ⟨_, rfl⟩
  have k5 : Ev.Stay [4, 5] a a5 := by rw [ha5]; exact k4.put (by decide) _
  have e5_95 : a5.eval (.tmp 95) = v := by rw [ha5, Ev.other (by decide)]; exact e4_95
  have e5_98 : a5.eval (.tmp 98) = .int .i64 x := by rw [ha5, Ev.other (by decide)]; exact e4_98
  have e5_4 : a5.eval (.tmp 4) = v := by rw [ha5, Ev.same (by rw [k4.1, hsz]; decide)]
  rw [← ha5]
  clear ha5 e4_95 e4_98
  clear e5_95
  refine Ev.pv (N := 5) (v := .int .i64 x) (W' := w') ?_ rfl rfl ?_
  · unfold execOp
    generalize a5.eval = ev at *
    (simp [go_sem, *])
  obtain ⟨a6, ha6⟩ : ∃ z_, z_ = a5.put (some 5) (.int .i64 x) := ⟨_, rfl⟩
  have k6 : Ev.Stay [4, 5] a a6 := by rw [ha6]; exact k5.put (by decide) _
  have e6_98 : a6.eval (.tmp 98) = .int .i64 x := by rw [ha6, Ev.other (by decide)]; exact e5_98
  have e6_4 : a6.eval (.tmp 4) = v := by rw [ha6, Ev.other (by decide)]; exact e5_4
  have e6_5 : a6.eval (.tmp 5) = .int .i64 x := by rw [ha6, Ev.same (by rw [k5.1, hsz]; decide)]
  rw [← ha6]
  clear ha6 e5_98 e5_4
  exact hQ _ _ k6 e6_4 e6_5 hR

def Rg.flat (l : List (Int × Int)) : List Value := l.flatMap fun p => [.int .i64 p.1, .int .i64 p.2]
theorem Rg.flat_snoc (l : List (Int × Int)) (p : Int × Int) : Rg.flat (l ++ [p]) = Rg.flat l ++ [.int .i64 p.1, .int .i64 p.2] := by
  unfold Rg.flat; rw [List.flatMap_append]; simp
/-- Whatever is no row of pairs lies as it lay. -/
def Rg.Keeps (W W' : World) : Prop := W.heap.size ≤ W'.heap.size ∧ ∀ (b : Nat) (o : Obj), W.heap[b]? = some o → (∀ c, o ≠ .cells c 42 (0, 0)) → W'.heap[b]? = some o
theorem Rg.Keeps.refl (W : World) : Rg.Keeps W W := ⟨Nat.le_refl _, fun _ _ h _ => h⟩
theorem Rg.Keeps.trans {A B C : World} (h : Rg.Keeps A B) (k : Rg.Keeps B C) : Rg.Keeps A C := ⟨Nat.le_trans h.1 k.1, fun b o ho hn => k.2 b o (h.2 b o ho hn) hn⟩
theorem Rg.Keeps.of_row {W W' : World} {nb m : Nat} {v : Value} {xs : List Value} (h : W.ownsRow nb 42 2 v m xs) (hk : Kept W W' (fun k => some k = v.ownBlock)) : Rg.Keeps W W' := by
  refine ⟨hk.1, fun b o ho hn => (hk.2 b (Array.getElem?_eq_some_iff.1 ho).1 (fun he => ?_)).trans ho⟩
  rcases h.2 with ⟨rfl, _⟩ | ⟨g, cap, cur, rfl, _, hg, _⟩
  · cases he
  · have e : b = g := by injection he
    subst e
    rw [ho] at hg
    injection hg with hg
    exact hn _ hg
theorem hunt_Run.Chain.keeps {W W' : World} {p : Value} {cs : List (Int × Int)} (h : hunt_Run.Chain W p cs) (hk : Rg.Keeps W W') : hunt_Run.Chain W' p cs :=
  h.kept (fun b cells hb => (hk.2 b _ hb (fun c e => by injection e with _ e; exact absurd e (by decide))).trans hb.symm)
noncomputable def Rg.round : Code := .seq (.seq (.region 20 (Rg.ops 20) false) (.cond (.tmp 81) .skip (.exit 4))) (.seq (.block 5 (.region 22 (Rg.ops 22) false)) (.region 21 (Rg.ops 21) false))
theorem Rg.loop {Q : Exit → Act → World → Prop} {nb : Nat} : ∀ (todo done : List (Int × Int)) (a : Act) (W : World) (v p : Value), a.tmps.size = 99 → a.eval (.tmp 15) = v → a.eval (.tmp 16) = p → hunt_Run.Chain W p todo → W.ownsRow nb 42 2 v done.length (Rg.flat done) → done.length + todo.length ≤ 2000000 → nb ≤ W.heap.size →
    (∀ a' W' v', Ev.Stay [15, 16] a a' → a'.eval (.tmp 15) = v' → W'.ownsRow nb 42 2 v' (done ++ todo).length (Rg.flat (done ++ todo)) → Below nb W W' → Rg.Keeps W W' → Q (.exit 4) a' W') → Code.rounds Try.prog Rg.round Q (todo.length + 1) a W
  | [], done, a, W, v, p, hsz, h15, h16, hc, ho, hl, hnb, hQ => by
    have ep : p = .pointer none := hc
    subst ep
    rw [List.length_nil, rounds_succ]
    refine wp_seq (wp_seq (Rg.r20n hsz h16 ?_))
    intro a1 k1 e1
    show Code.wp _ _ _ _ _
    refine wp_cond_false e1 (wp_exit ?_)
    show Q (.exit 4) a1 W
    refine hQ a1 W v (k1.trans (Ev.Stay.refl _ _) (fun M h => by simp at h)) ((k1.2.2 15 (by decide) (by decide)).trans h15) ?_ (Below.refl _ _) (Rg.Keeps.refl _)
    rw [List.append_nil]; exact ho
  | c :: todo, done, a, W, v, p, hsz, h15, h16, hc, ho, hl, hnb, hQ => by
    obtain ⟨b, q, rfl, hb, hq⟩ := hc
    obtain ⟨qa, rfl⟩ := hq.ptr
    rw [List.length_cons, rounds_succ]
    refine wp_seq (wp_seq (Rg.r20s hsz h16 ?_))
    intro a1 k1 e1
    show Code.wp _ _ _ _ _
    refine wp_cond_true e1 (wp_skip ?_)
    show Code.wp _ _ _ _ _
    have z1 : a1.tmps.size = 99 := k1.1.trans hsz
    rw [List.length_cons] at hl
    refine wp_seq (wp_block (Rg.r22 z1 ((k1.2.2 15 (by decide) (by decide)).trans h15) ((k1.2.2 16 (by decide) (by decide)).trans h16) hb ho (by omega) hnb ?_))
    intro a2 v2 W2 k2 e2 o2 kk bb
    show Code.wp _ _ _ _ _
    have kp := Rg.Keeps.of_row ho kk
    have hb2 := kp.2 b _ hb (fun c e => by injection e with _ e; exact absurd e (by decide))
    refine Rg.r21 (k2.1.trans z1) ((k2.2.2 16 (by decide) (by decide)).trans ((k1.2.2 16 (by decide) (by decide)).trans h16)) hb2 ?_
    intro a3 k3 e3
    show Code.rounds _ _ _ _ _ _
    have z3 : a3.tmps.size = 99 := k3.1.trans (k2.1.trans z1)
    have k13 : Ev.Stay [15, 16] a a3 := ((k1.trans k2 (fun M h => by simp at h)).trans (L' := [15, 16]) (b := a2) (c := a2) (Ev.Stay.refl _ _) (fun M h => by simp at h ⊢; omega)).trans (Ev.Stay.trans k3 (Ev.Stay.refl [15, 16] _) (fun M h => by simp at h ⊢; omega)) (fun M h => h)
    refine Rg.loop todo (done ++ [c]) a3 W2 v2 (.pointer qa) z3 ((k3.2.2 15 (by decide) (by decide)).trans e2) e3 (hq.keeps kp) ?_ (by rw [List.length_append, List.length_singleton]; omega) (Nat.le_trans hnb kp.1) ?_
    · rw [Rg.flat_snoc, List.length_append]; exact o2
    · intro a4 W4 v4 k4 e4 o4 b4 kp4
      rw [List.append_assoc] at o4
      exact hQ a4 W4 v4 (k13.trans k4 (fun M h => h)) e4 o4 (bb.trans b4) (kp.trans kp4)
theorem Rg.res {a : Act} {W : World} {v : Value} {x : Int} (h4 : a.eval (.tmp 4) = v) (h5 : a.eval (.tmp 5) = .int .i64 x) : (results Try.f8 a.tmps).run Try.prog W = .ok (.tuple #[v, .int .i64 x]) W := by
  have e4 : a.tmps[4]?.getD undef = v := by simpa [Act.eval] using h4
  have e5 : a.tmps[5]?.getD undef = .int .i64 x := by simpa [Act.eval] using h5
  simp [results, Try.results8, go_sem, e4, e5]
/-- The way out over marks that lie from a place on. -/
theorem Rg.leaves {F : Fence} {n : Nat} {P : Program} {fn : Func} {tmps : Array Value} {R : Ending → World → Prop} (n₁ : Nat) (J : World → Prop) (hJ : ∀ (W : World) (D : Nat), J W → n₁ ≤ D → W.heap[D]? = some (.deferred (some [])) → J (W.putObj D (.deferred none)))
    (hend : ∀ W, J W → LeavesIn F n P fn tmps R [] .returning W) : ∀ (ms : List Nat) (W : World), J W → (∀ D ∈ ms, n₁ ≤ D) → (∀ D ∈ ms, W.heap[D]? = some (.deferred (some []))) → ms.Pairwise (fun a b => a ≠ b) → LeavesInM F n P fn tmps R (ms.map hunt_Run.mark) .returning W
  | [], W, h, _, _, _ => hend W h
  | D :: ms, W, h, hn, hm, hp => by
    have hD := hm D (List.mem_cons_self ..)
    have hq := List.pairwise_cons.mp hp
    refine ⟨by simp, .inl ⟨D, _, rfl, run_takeDeferred hD, ?_⟩⟩
    exact Rg.leaves n₁ J hJ hend ms _ (hJ W D h (hn D (List.mem_cons_self ..)) hD) (fun E hE => hn E (List.mem_cons_of_mem _ hE)) (fun E hE => (World.putObj_heap_other (fun e => hq.1 E hE e.symm)).trans (hm E (List.mem_cons_of_mem _ hE))) hq.2
noncomputable def Rg.tailcode : Code := .seq (.region 17 (Rg.ops 17) false) (.seq (.seq (.region 18 (Rg.ops 18) false) (.cond (.tmp 73) (.seq (.region 19 (Rg.ops 19) false) (.block 4 (.loop Rg.round))) .skip)) (.seq (.region 23 (Rg.ops 23) false) (.seq (.region 24 (Rg.ops 24) false) .ret)))
theorem hunt_Run.snoc_ind' {α : Type} {P : List α → Prop} (h0 : P []) (h1 : ∀ l x, P l → P (l ++ [x])) (l : List α) : P l := by
  have q : ∀ m : List α, P m.reverse := by
    intro m
    induction m with
    | nil => exact h0
    | cons x m ih => rw [List.reverse_cons]; exact h1 _ _ ih
  have := q l.reverse
  rwa [List.reverse_reverse] at this
theorem Rg.pairs_reps {W : World} {base : Nat} {ok : Nat → Prop} (l : List (Int × Int)) : Reps (k42.M W base ok) 2 (hunt_Run.pairs l) (Rg.flat l) := by
  refine hunt_Run.snoc_ind' (P := fun l => Reps (k42.M W base ok) 2 (hunt_Run.pairs l) (Rg.flat l)) (Reps.none _ _) (fun l p h => ?_) l
  rw [Rg.flat_snoc, show hunt_Run.pairs (l ++ [p]) = hunt_Run.pairs l ++ [⟨p.1, p.2⟩] by simp [hunt_Run.pairs]]
  exact h.snoc (k42_mkM W base ok ⟨p.1, p.2⟩) rfl
theorem Rg.tail {Q : Exit → Act → World → Prop} {a : Act} {w w1 W : World} {k : Nat} {A0 A1 : Option Addr} {c0 c1 : Nat} {l0 l1 : List Int} {lr : List S42} {nh : Int} {s : List Int × List (List (Int × Int))} {ms : List Nat}
    (hsz : a.tmps.size = 99) (h0 : a.eval (.tmp 0) = .slice A0 l0.length c0) (h1 : a.eval (.tmp 1) = .slice A1 l1.length c1) (h8 : a.eval (.tmp 8) = .pointer (some ⟨w1.heap.size + 1, 0, none⟩))
    (hr0 : Kd.C (Kd.int .i64) w A0 l0.length l0) (hc0 : l0.length ≤ c0) (hr1 : Kd.C (Kd.int .i64) w A1 l1.length l1) (hc1 : l1.length ≤ c1) (hrev : api_Pair.f k (hunt_Run.pairs (s.2.getLastD [])) = some lr) (hhits : hunt_Hits.f l0 l1 = some nh)
    (HB : Below w.heap.size w w1) (HM : hunt_Run.Mem W w1.heap.size w1.heap.size (w1.heap.size + 1) (fun _ => True) s) (hl : s.1.length ≤ 1000000) (hch : (s.2.getLastD []).length ≤ 2000000) (hd : ∀ D ∈ ms, W.heap[D]? = some (Obj.deferred (some []))) (HBw : Below w1.heap.size w1 W)
    (hQ : ∀ a' W' v', a'.defers = a.defers → a'.eval (.tmp 4) = v' → a'.eval (.tmp 5) = .int .i64 nh → Kd.R k42 42 W' w.heap.size (fun _ => True) v' lr → Below w.heap.size w W' → (∀ D ∈ ms, W'.heap[D]? = some (Obj.deferred (some []))) → Q .ret a' W') :
    Rg.tailcode.wp Try.prog Q a W := by
  obtain ⟨At, ct, Ae, ce, ps, m1, m2, m3, m4, m5, m6⟩ := HM
  have lps : ps.length = s.2.length := by have := m4.1; omega
  refine wp_seq (Rg.r17 hsz ?_)
  intro a1 k1 e15
  show Code.wp _ _ _ _ _
  have z1 : a1.tmps.size = 99 := k1.1.trans hsz
  -- what stands behind the list's making
  have fin : ∀ (a2 : Act) (W2 : World) (v2 : Value), Ev.Stay [15, 16] a1 a2 → a2.eval (.tmp 15) = v2 → W2.ownsRow w1.heap.size 42 2 v2 (s.2.getLastD []).length (Rg.flat (s.2.getLastD [])) → Below w1.heap.size w1 W2 → Rg.Keeps W W2 →
      (Code.seq (.region 23 (Rg.ops 23) false) (.seq (.region 24 (Rg.ops 24) false) .ret)).wp Try.prog Q a2 W2 := by
    intro a2 W2 v2 k2 f15 o2 b2 kp2
    have z2 : a2.tmps.size = 99 := k2.1.trans z1
    have hR : Kd.R k42 42 W2 w1.heap.size (fun k_ => some k_ = v2.ownBlock) v2 (hunt_Run.pairs (s.2.getLastD [])) := by
      refine ⟨fun k hk => hk.symm, Rg.flat (s.2.getLastD []), ?_, Rg.pairs_reps _⟩
      rw [show (hunt_Run.pairs (s.2.getLastD [])).length = (s.2.getLastD []).length by simp [hunt_Run.pairs]]
      exact o2
    refine wp_seq (Rg.r23 z2 f15 (api_Pair.calls k _ v2 _ lr w1 W2 b2 hR hrev) ?_)
    rintro a3 W3 k3 ⟨hR3, b3, kk3⟩
    show Code.wp _ _ _ _ _
    have z3 : a3.tmps.size = 99 := k3.1.trans z2
    have kp3 : Rg.Keeps W2 W3 := Rg.Keeps.of_row o2 kk3
    have bw : Below w.heap.size w W3 := HB.trans (b3.mono HB.size)
    have f0 := (k3.2.2 0 (by decide) (by decide)).trans ((k2.2.2 0 (by decide) (by decide)).trans ((k1.2.2 0 (by decide) (by decide)).trans h0))
    have f1 := (k3.2.2 1 (by decide) (by decide)).trans ((k2.2.2 1 (by decide) (by decide)).trans ((k1.2.2 1 (by decide) (by decide)).trans h1))
    refine wp_seq (Rg.r24 z3 f0 f1 ((k3.2.2 15 (by decide) (by decide)).trans f15) (hunt_Hits.calls A0 c0 l0 A1 c1 l1 nh W3 (Kd.C_below hr0 bw) hc0 (Kd.C_below hr1 bw) hc1 hhits) ?_)
    intro a4 W4 k4 e4 e5 b4
    show Code.wp _ _ _ _ _
    refine wp_ret (hQ a4 W4 v2 (k4.2.1.trans (k3.2.1.trans (k2.2.1.trans k1.2.1))) e4 e5 ?_ (bw.trans (b4.mono bw.size)) ?_)
    · exact Kd.R_mono (Kd.R_lower (Kd.R_below hR3 b4) HB.size) (fun _ _ => trivial)
    · intro D hD
      have q1 := hd D hD
      have q2 := kp2.2 D _ q1 (by intro c e; cases e)
      have q3 := kp3.2 D _ q2 (by intro c e; cases e)
      exact (b4.block D (Array.getElem?_eq_some_iff.1 q3).1).trans q3
  refine wp_seq (wp_seq (Rg.r18 z1 ((k1.2.2 8 (by decide) (by decide)).trans h8) m2 ?_))
  intro a2 k2 e73
  show Code.wp _ _ _ _ _
  have z2 : a2.tmps.size = 99 := k2.1.trans z1
  by_cases hne : 0 < s.2.length
  · refine wp_cond_true (by rw [e73, decide_eq_true hne]) ?_
    have hps : s.2.length - 1 < ps.length := by omega
    have hcn := m6 (s.2.length - 1) _ (List.getElem?_eq_getElem hps)
    obtain ⟨q, hq⟩ := hcn.ptr
    rw [hq] at hcn
    have el : s.2.getD (s.2.length - 1) [] = s.2.getLastD [] := by
      rw [List.getLastD_eq_getLast?, List.getLast?_eq_getElem?, List.getD_eq_getElem?_getD]
    rw [el] at hcn
    refine wp_seq (Rg.r19 z2 ((k2.2.2 8 (by decide) (by decide)).trans ((k1.2.2 8 (by decide) (by decide)).trans h8)) m2 m4 hne (by omega) (by rw [List.getElem?_eq_getElem hps, hq]) ?_)
    intro a3 k3 e16
    show Code.wp _ _ _ _ _
    refine wp_block (wp_loop_rounds ((s.2.getLastD []).length + 1) ?_)
    refine Rg.loop (nb := w1.heap.size) (s.2.getLastD []) [] a3 W (.slice none 0 0) (.pointer q) (k3.1.trans z2) ((k3.2.2 15 (by decide) (by decide)).trans ((k2.2.2 15 (by decide) (by decide)).trans e15)) e16 hcn (World.ownsRow_nil _ _ _ _) (by show 0 + (s.2.getLastD []).length ≤ 2000000; omega) HBw.size ?_
    intro a4 W4 v4 k4 e4 o4 b4 kp4
    show Code.wp _ _ _ _ _
    rw [List.nil_append] at o4
    exact fin a4 W4 v4 ((k2.trans (Ev.Stay.refl [15, 16] _) (fun M h => by simp at h)).trans ((k3.trans (Ev.Stay.refl [15, 16] _) (fun M h => by simp at h ⊢; omega)).trans k4 (fun M h => h)) (fun M h => h)) e4 o4 (HBw.trans b4) kp4
  · refine wp_cond_false (by rw [e73, decide_eq_false hne]) (wp_skip ?_)
    show Code.wp _ _ _ _ _
    have e0 : s.2 = [] := List.eq_nil_of_length_eq_zero (by omega)
    refine fin a2 W (.slice none 0 0) (k2.trans (Ev.Stay.refl [15, 16] _) (fun M h => by simp at h)) ((k2.2.2 15 (by decide) (by decide)).trans e15) ?_ HBw (Rg.Keeps.refl _)
    rw [e0]; exact World.ownsRow_nil _ _ _ _
/-- No list behind a threshold is longer than its place tells. -/
def Rg.Short (s : List Int × List (List (Int × Int))) : Prop := s.1.length = s.2.length ∧ ∀ i, i < s.2.length → (s.2.getD i []).length ≤ i + 1
theorem Rg.short_step {k : Nat} {i j : Int} {s q : List Int × List (List (Int × Int))} (h : Rg.Short s) (hs : hunt_Run.step k i s j = some q) : Rg.Short q := by
  unfold hunt_Run.step at hs
  obtain ⟨v, hv, hs⟩ := Option.bind_eq_some_iff.mp hs
  obtain rfl := Option.some.inj hs
  obtain ⟨h1, h2⟩ := h
  have hc : ((i, j) :: (if 0 < v then s.2.getD (v - 1).toNat [] else [])).length ≤ v.toNat + 1 := by
    by_cases c : 0 < v
    · rw [if_pos c, List.length_cons]
      rcases Nat.lt_or_ge (v - 1).toNat s.2.length with g | g
      · have := h2 _ g; omega
      · rw [List.getD_eq_getElem?_getD, List.getElem?_eq_none g]; simp
    · rw [if_neg c]; simp
  by_cases c : v = (s.1.length : Int)
  · rw [if_pos c, if_pos c]
    refine ⟨by simp [h1], fun t ht => ?_⟩
    rw [List.length_append, List.length_singleton] at ht
    rcases Nat.lt_or_ge t s.2.length with g | g
    · rw [List.getD_eq_getElem?_getD, List.getElem?_append_left g, ← List.getD_eq_getElem?_getD]
      exact h2 t g
    · have et : t = s.2.length := by omega
      subst et
      rw [List.getD_eq_getElem?_getD, List.getElem?_append_right (Nat.le_refl _), Nat.sub_self]
      show ((i, j) :: (if 0 < v then s.2.getD (v - 1).toNat [] else [])).length ≤ _
      omega
  · rw [if_neg c, if_neg c]
    refine ⟨by simp [h1], fun t ht => ?_⟩
    rw [List.length_set] at ht
    by_cases e : v.toNat = t
    · subst e
      rw [List.getD_eq_getElem?_getD, List.getElem?_set_self ht]
      exact hc
    · rw [List.getD_eq_getElem?_getD, List.getElem?_set_ne e, ← List.getD_eq_getElem?_getD]
      exact h2 t ht
theorem Rg.short_row {k : Nat} {i : Int} : ∀ (js : List Int) {s q : List Int × List (List (Int × Int))}, Rg.Short s → hunt_Run.row k i s js = some q → Rg.Short q
  | [], s, q, h, hs => by
    have e : some s = some q := hs
    obtain rfl := Option.some.inj e
    exact h
  | j :: js, s, q, h, hs => by
    obtain ⟨p, h1, h2⟩ := Option.bind_eq_some_iff.mp (show ((hunt_Run.step k i s j).bind fun q => hunt_Run.row k i q js) = some q from hs)
    exact Rg.short_row js (Rg.short_step h h1) h2
theorem Rg.short_go {k : Nat} {b : List Int} : ∀ (xs : List Int) {i : Nat} {s q : List Int × List (List (Int × Int))}, Rg.Short s → hunt_Run.go k b i s xs = some q → Rg.Short q
  | [], i, s, q, h, hs => by
    have e : some s = some q := hs
    obtain rfl := Option.some.inj e
    exact h
  | x :: xs, i, s, q, h, hs => by
    obtain ⟨p, h1, h2⟩ := Option.bind_eq_some_iff.mp (show ((hunt_Run.row k (i : Int) s (Plc.pos x b 0).reverse).bind fun q => hunt_Run.go k b (i + 1) q xs) = some q from hs)
    exact Rg.short_go xs (Rg.short_row _ h h1) h2
theorem Rg.short_last {s : List Int × List (List (Int × Int))} (h : Rg.Short s) : (s.2.getLastD []).length ≤ s.1.length := by
  rcases Nat.eq_zero_or_pos s.2.length with e | e
  · rw [List.eq_nil_of_length_eq_zero e]; simp
  · have := h.2 (s.2.length - 1) (by omega)
    have el : s.2.getD (s.2.length - 1) [] = s.2.getLastD [] := by
      rw [List.getLastD_eq_getLast?, List.getLast?_eq_getElem?, List.getD_eq_getElem?_getD]
    rw [el] at this
    have := h.1
    omega
theorem hunt_Run.R_put' {α : Type} {d : Kd α} {e base : Nat} {ok : Nat → Prop} {v : Value} {xs : List α} {W : World} {D : Nat} (h : d.R e W base ok v xs) (ho : W.heap[D]? = some (.deferred (some []))) (o' : Obj) : d.R e (W.putObj D o') base ok v xs := by
  refine Kd.R_mono (Kd.R_step (Kd.R_bound h) (fun k hk hlt => World.putObj_heap_other (fun he => ?_))) (fun k hk => hk.1)
  obtain ⟨_, _, _, q, _, cells, hc⟩ := hk
  subst he
  rw [hc] at ho
  cases ho
attribute [local go_sem] Oper.semAt_some in
set_option maxHeartbeats 8000000 in
set_option maxRecDepth 100000 in
theorem hunt_Run.calls (k : Nat) (A0 : Option Addr) (c0 : Nat) (l0 : List Int) (A1 : Option Addr) (c1 : Nat) (l1 : List Int) (r1 : List S42) (r2 : Int) (w : World) (hr0 : Kd.C (Kd.int .i64) w A0 l0.length l0) (hc0 : l0.length ≤ c0) (hr1 : Kd.C (Kd.int .i64) w A1 l1.length l1) (hc1 : l1.length ≤ c1) (h : hunt_Run.f k l0 l1 = some (r1, r2)) :
    Calls Try.prog 8 #[.slice A0 l0.length c0, .slice A1 l1.length c1] w fun e w' => ∃ v0_ : Value, e = .returned (.tuple #[v0_, .int .i64 r2]) ∧ Kd.R k42 42 w' w.heap.size (fun _ => True) v0_ r1 ∧ Below w.heap.size w w' := by
  unfold hunt_Run.f at h
  by_cases q : l0.length ≤ 1000 ∧ l1.length ≤ 1000 ∧ l0.all hunt_Run.ok = true ∧ l1.all hunt_Run.ok = true
  rotate_left
  · rw [if_neg q] at h
    exact absurd h (by simp)
  rw [if_pos q] at h
  obtain ⟨q0, q1, q2, q3⟩ := q
  have W0 : Aside0 (∀ x ∈ l0, (Lit.int .i64 x).wf = true) := ⟨List.all_eq_true.mp q2⟩
  have W1 : Aside0 (∀ x ∈ l1, (Lit.int .i64 x).wf = true) := ⟨List.all_eq_true.mp q3⟩
  obtain ⟨s, hgo, h⟩ := Option.bind_eq_some_iff.mp h
  obtain ⟨lr, hrev, h⟩ := Option.bind_eq_some_iff.mp h
  obtain ⟨nh, hhits, h⟩ := Option.bind_eq_some_iff.mp h
  have HGO := Aside0.mk hgo
  have HREV := Aside0.mk hrev
  have HHITS := Aside0.mk hhits
  simp only [Option.some.injEq, Prod.mk.injEq] at h
  obtain ⟨rfl, rfl⟩ := h
  have HR0 := Aside0.mk hr0
  have HR1 := Aside0.mk hr1
  clear hr0 hr1 hgo hrev hhits q2 q3
  refine (callsIn_wide (n := 9)).1 ?_
  refine callsIn_of_wp_marks Try.func8 rfl trivial ?_ rfl
  simp only [Try.ntmps8, List.size_toArray, List.length_cons, List.length_nil, Nat.reduceAdd, Nat.reduceSub, Array.replicate_succ, Array.replicate_zero, List.push_toArray, List.append_toArray, List.nil_append, List.cons_append]
  gi_wp2_with (first | (refine ⟨trivial, ?_⟩; gi_at_call 18; refine (callsIn_wide.2 (places_calls A1 c1 l1 w HR1.out hc1 (by omega) W1.out)).mono ?_; rintro e w1 ⟨rfl, hp, hb⟩; have HP := Aside0.mk hp; have HB := Aside0.mk hb; clear hp hb))
  have HN := Aside0.mk (show w1.heap.size + 2 ≤ ((w1.alloc (Obj.cells #[Value.slice none 0 0] 25)).alloc (Obj.cells #[Value.slice none 0 0] 35)).heap.size by rw [World.size_alloc, World.size_alloc]; omega)
  have hsz1 : (w1.alloc (Obj.cells #[Value.slice none 0 0] 25)).heap.size = w1.heap.size + 1 := World.size_alloc _ _
  have HM : Aside0 (hunt_Run.Mem ((w1.alloc (Obj.cells #[Value.slice none 0 0] 25)).alloc (Obj.cells #[Value.slice none 0 0] 35)) w1.heap.size w1.heap.size (w1.heap.size + 1) (fun _ => True) ([], [])) := ⟨none, 0, none, 0, [], (Boxed.new w1 25 (.slice none 0 0)).alloc _, by have := Boxed.new (w1.alloc (Obj.cells #[Value.slice none 0 0] 25)) 35 (.slice none 0 0); rwa [hsz1] at this, Kd.R_nil _ _ _ _ _, World.ownsRow_nil _ _ _ _, rfl, fun i p hp => by simp at hp⟩
  have HBE : Aside0 (Below w1.heap.size w1 ((w1.alloc (Obj.cells #[Value.slice none 0 0] 25)).alloc (Obj.cells #[Value.slice none 0 0] 35))) := ⟨below_alloc (below_alloc (Below.refl _ _) _) _⟩
  generalize ((w1.alloc (Obj.cells #[Value.slice none 0 0] 25)).alloc (Obj.cells #[Value.slice none 0 0] 35)) = W2 at HN HM HBE ⊢
  clear hsz1
  refine wpIn_loop (fun a_ wr => ∃ (j : Nat) (s1 : List Int × List (List (Int × Int))) (ms : List Nat) (u : Nat → Value), j ≤ l0.length ∧ Aside0 (hunt_Run.go k l1 j s1 (l0.drop j) = some s) ∧ Aside0 (hunt_Run.Mem wr w1.heap.size w1.heap.size (w1.heap.size + 1) (fun _ => True) s1) ∧ s1.1.length ≤ j * 1000 ∧ Aside0 (∀ D ∈ ms, wr.heap[D]? = some (Obj.deferred (some []))) ∧ (∀ D ∈ ms, w1.heap.size ≤ D) ∧ Aside0 (ms.Pairwise (fun x y => x ≠ y)) ∧ Aside0 (Below w1.heap.size w1 wr) ∧ w1.heap.size + 2 ≤ wr.heap.size ∧ a_ = { tmps := #[.slice A0 l0.length c0, .slice A1 l1.length c1, undef, undef, .slice none 0 0, .int .i64 0, .map (some w.heap.size), .pointer (some ⟨w1.heap.size, 0, none⟩), .pointer (some ⟨w1.heap.size + 1, 0, none⟩), u 9, u 10, u 11, u 12, u 13, u 14, undef, undef, .slice A1 l1.length c1, .map (some w.heap.size), .slice A0 l0.length c0, .int .i64 (l0.length : Int), .int .i64 (j : Int), u 22, u 23, u 24, u 25, u 26, u 27, u 28, u 29, u 30, u 31, u 32, u 33, u 34, u 35, u 36, u 37, u 38, u 39, u 40, u 41, u 42, u 43, u 44, u 45, u 46, u 47, u 48, u 49, u 50, u 51, u 52, u 53, u 54, u 55, u 56, u 57, u 58, u 59, u 60, u 61, u 62, u 63, u 64, u 65, u 66, u 67, u 68, u 69, u 70, undef, undef, undef, undef, undef, undef, undef, undef, undef, undef, undef, undef, undef, undef, undef, undef, undef, undef, undef, undef, undef, undef, undef, undef, undef, undef, undef, undef], defers := ms.map hunt_Run.mark }) (fun a_ _ => l0.length - (intOf (a_.tmps.getD 21 undef)).toNat) ?start ?round
  case start => exact ⟨0, ([], []), [], fun _ => undef, Nat.zero_le _, by rw [List.drop_zero]; exact HGO, HM, Nat.zero_le _, ⟨fun D hD => by cases hD⟩, (fun D hD => by cases hD), ⟨List.Pairwise.nil⟩, HBE, HN.out, rfl⟩
  case round =>
    have HGO0 := HGO
    clear HM HBE HN HGO
    rintro a_ wr ⟨j, s1, ms, u, hj, HG, HM, hlen, HD, hDw, HP2, HBw, hN, rfl⟩
    by_cases hlt : j < l0.length
    · have hw := Plc.all_at W0.out j hlt
      obtain ⟨ad, ea, hx⟩ := Kd.at_int HR0.out (j : Int) (by omega) (by omega)
      cases ea
      replace hx := (HBw.out.cell (by have := World.block_lt_of_cell? w _ hx; have := HB.out.size; omega)).trans ((HB.out.cell (World.block_lt_of_cell? w _ hx)).trans hx)
      rw [Int.toNat_natCast] at hx
      have hg := HG.out
      rw [Plc.drop_at l0 j hlt, hunt_Run.go] at hg
      obtain ⟨s2, h1, h2⟩ := Option.bind_eq_some_iff.mp hg
      obtain ⟨x, ex⟩ : ∃ x, x = rd l0 (j : Int) := ⟨_, rfl⟩
      rw [← ex] at hx hw h1
      have H1 := Aside0.mk h1
      have H2 := Aside0.mk h2
      clear ex hg h1 h2 HG
      obtain ⟨Av, cv, hrun, hrz, hcz, hlow⟩ := Plc.look HP.out (W := wr.alloc (Obj.cells #[Value.int IntKind.i64 (j : Int)] 3)) (below_alloc HBw.out _) (by unfold maxLen; omega) hw
      have HRZ := Aside0.mk hrz
      have HLW := Aside0.mk hlow
      clear hrz hlow
      gi_wp2_with (first
        | (refine ⟨trivial, ?_⟩; gi_at_call 19; refine (Back.back_in Fence.wide _ trivial rfl _ _ _ _).mono ?_; rintro e w2 ⟨rfl, rfl⟩))
      have hz1 : (wr.alloc (Obj.cells #[Value.int IntKind.i64 (j : Int)] 3)).heap.size = wr.heap.size + 1 := World.size_alloc _ _
      obtain ⟨W3, hW3⟩ : ∃ W3, W3 = ((wr.alloc (Obj.cells #[Value.int IntKind.i64 (j : Int)] 3)).alloc (Obj.cells #[Value.slice Av (Plc.pos x l1 0).length cv] 25)) := ⟨_, rfl⟩
      have hs3 : W3.heap.size = wr.heap.size + 2 := by rw [hW3, World.size_alloc, World.size_alloc]
      have bi : Boxed W3 wr.heap.size 3 (.int .i64 (j : Int)) := by rw [hW3]; exact (Boxed.new wr 3 _).alloc _
      have bs : Boxed W3 (wr.heap.size + 1) 25 (.slice Av (Plc.pos x l1 0).length cv) := by
        have := Boxed.new (wr.alloc (Obj.cells #[Value.int IntKind.i64 (j : Int)] 3)) 25 (.slice Av (Plc.pos x l1 0).length cv)
        rw [hz1] at this
        rw [hW3]; exact this
      have HM3 : Aside0 (hunt_Run.Mem W3 w1.heap.size w1.heap.size (w1.heap.size + 1) (fun g => g ≠ wr.heap.size) s1) := ⟨by rw [hW3]; exact ((HM.out.old (Nat.le_refl _)).turned (World.grownBy_alloc wr _ none) (by simp)).turned (World.grownBy_alloc _ _ none) (by simp)⟩
      have HB3 : Aside0 (Below w1.heap.size w1 W3) := ⟨by rw [hW3]; exact below_alloc (below_alloc HBw.out _) _⟩
      have HD3 : Aside0 (∀ D ∈ ms, W3.heap[D]? = some (Obj.deferred (some []))) := ⟨fun D hD => by
        have h0 := HD.out D hD
        have h1 := (World.grownBy_alloc wr (Obj.cells #[Value.int IntKind.i64 (j : Int)] 3) none).block D (Array.getElem?_eq_some_iff.1 h0).1 (by simp)
        have h2 := (World.grownBy_alloc (wr.alloc (Obj.cells #[Value.int IntKind.i64 (j : Int)] 3)) (Obj.cells #[Value.slice Av (Plc.pos x l1 0).length cv] 25) none).block D (by have := (Array.getElem?_eq_some_iff.1 h0).1; rw [hz1]; omega) (by simp)
        rw [hW3]; exact (h2.trans h1).trans h0⟩
      have ints : Aside0 (Back.Ints w1.heap.size W3 Av (Plc.pos x l1 0)) := ⟨by
        have hC : Kd.C (Kd.int .i64) W3 Av (Plc.pos x l1 0).length (Plc.pos x l1 0) := by rw [hW3]; exact Kd.C_alloc HRZ.out _
        rcases Nat.eq_zero_or_pos (Plc.pos x l1 0).length with hn | hn
        · exact .inl (List.eq_nil_of_length_eq_zero hn)
        · obtain ⟨_, _, hh⟩ := Kd.reads_of_C (enc := Value.int .i64) (d := (0 : Int)) (h1 := fun _ => rfl) hC
          obtain ⟨ad2, ea2, hcs⟩ := hh hn
          refine .inr ⟨ad2, ea2, HLW.out _ (by rw [ea2]; rfl), fun i hi => ?_⟩
          rw [← List.getD_eq_getElem?_getD]
          exact hcs i hi⟩
      rw [← hW3]
      clear hW3 hz1 HM HBw hrun HRZ HLW hx
      have hms : ∀ D ∈ ms, D < W3.heap.size := fun D hD => by have := (Array.getElem?_eq_some_iff.1 (HD.out D hD)).1; omega
      refine wpIn_rangeFunc_ownF rfl (by omega) (gf := 25) (lb := #[.pointer (some ⟨wr.heap.size + 1, 0, none⟩)]) rfl trivial (enters_of Try.func25 (by kernel_rfl) rfl)
        (Back.back_stops Fence.wide _ trivial rfl (by omega) (wr.heap.size + 1) w1.heap.size Av cv (Plc.pos x l1 0) (by have := Plc.pos_len x l1 0; omega) W3 (by omega) (by omega) bs.cell ints.out)
        (fun h k => h.trans k) (fun W l o o' hB _ _ _ => Back.Keeps.putObj (B := W3.heap.size) (by omega) (by omega) W l o' hB) (Below.refl _ _) (fun _ => rfl)
        (hunt_Run.I w1 wr.heap.size j ms (.slice Av (Plc.pos x l1 0).length cv) s1) (fun _ _ _ => False) (hunt_Run.I_own w1 _ _ _ _ s1 _ (by omega) hms) (fun _ _ _ _ _ hs _ _ => hs) ⟨s1, HM3.out, rfl, by simp; omega, HB3.out, HD3.out, bi, bs⟩
        (fun y => { tmps := #[.slice (some ad) l0.length c0, .slice A1 l1.length c1, undef, undef, .slice none 0 0, .int .i64 0, .map (some w.heap.size), .pointer (some ⟨w1.heap.size, 0, none⟩), .pointer (some ⟨w1.heap.size + 1, 0, none⟩), .pointer (some ⟨wr.heap.size, 0, none⟩), .int .i64 x, u 11, .int .i64 y.2, u 13, u 14, undef, undef, .slice A1 l1.length c1, .map (some w.heap.size), .slice (some ad) l0.length c0, .int .i64 (l0.length : Int), .int .i64 (j : Int), .bool true, .int .i64 (j : Int), .pointer (some (ad.add j)), .int .i64 x, .map (some w.heap.size), .int .i64 x, .slice Av (Plc.pos x l1 0).length cv, .func (Fn.func 25) #[] #[.pointer (some ⟨wr.heap.size + 1, 0, none⟩)], .int .i64 (y.1 : Int), .int .i64 y.2, u 32, u 33, u 34, u 35, u 36, u 37, u 38, u 39, u 40, u 41, u 42, u 43, u 44, u 45, u 46, u 47, u 48, u 49, u 50, u 51, u 52, u 53, u 54, u 55, u 56, u 57, u 58, u 59, u 60, u 61, u 62, u 63, u 64, u 65, u 66, u 67, u 68, u 69, u 70, undef, undef, undef, undef, undef, undef, undef, undef, undef, undef, undef, undef, undef, undef, undef, undef, undef, undef, undef, undef, undef, undef, undef, undef, undef, undef, undef, undef], defers := [] }) ?assign ?body ?done ?stop
      case assign =>
        intro l y W K hK
        gi_wp2
        exact hK
      case body =>
        rintro l pre y W ⟨s2, ⟨At, ct, Ae, ce, ps, m1, m2, m3, m4, m5, m6⟩, g2, g3, g4, g5, g6, g7⟩ hpre
        have hl2 : s2.1.length ≤ 2000000 := by have := Plc.pos_len x l1 0; have := Nat.mul_le_mul_right 1000 (show j ≤ 1000 by omega); omega
        obtain ⟨v, hF, hv⟩ := hunt_Run.find_total s2.1 y.2 hl2
        have hC := (Kd.R_reads' m3).2.2
        have hcap := (Kd.R_reads' m3).2.1
        refine Rg.body (n₀ := w1.heap.size) (B := wr.heap.size) (i := j) (y := y.2) (v := v) (s := s2) (fun q => ?hL) (fun _ _ _ _ h => h) rfl rfl rfl rfl rfl hN m1 m2 m3 m4 m5 m6 g6 hl2 hv hF ?_
        case hL => obtain ⟨_, _, q⟩ := q; exact q
        intro a' W' hM hk hb
        exact Rg.after rfl hN m1 m2 m3 m4 g2 g3 g4 g5 g6 g7 hF hM hk hb
      case done =>
        rintro E xs W hE rfl ⟨s3, g1, g2, g3, g4, g5, g6, g7⟩ hK
        clear g6 g7
        rw [Back.came_snd] at g2
        have er := hunt_Run.Steps.row g2 H1.out
        subst er
        have hEn : ∀ D ∈ ms, D ≠ E := fun D hD => by have := hms D hD; omega
        gi_wp2
        refine ⟨⟨j + 1, s3, E :: ms, fun i => Array.getD #[.slice (some ad) l0.length c0, .slice A1 l1.length c1, undef, undef, .slice none 0 0, .int .i64 0, .map (some w.heap.size), .pointer (some ⟨w1.heap.size, 0, none⟩), .pointer (some ⟨w1.heap.size + 1, 0, none⟩), .pointer (some ⟨wr.heap.size, 0, none⟩), .int .i64 x, u 11, u 12, u 13, u 14, undef, undef, .slice A1 l1.length c1, .map (some w.heap.size), .slice (some ad) l0.length c0, .int .i64 (l0.length : Int), .int .i64 ((j + 1 : Nat) : Int), .bool true, .int .i64 (j : Int), .pointer (some (ad.add j)), .int .i64 x, .map (some w.heap.size), .int .i64 x, .slice Av (Plc.pos x l1 0).length cv, .func (Fn.func 25) #[] #[.pointer (some ⟨wr.heap.size + 1, 0, none⟩)], u 30, u 31, u 32, u 33, u 34, u 35, u 36, u 37, u 38, u 39, u 40, u 41, u 42, u 43, u 44, u 45, u 46, u 47, u 48, u 49, u 50, u 51, u 52, u 53, u 54, u 55, u 56, u 57, u 58, u 59, u 60, u 61, u 62, u 63, u 64, u 65, u 66, u 67, u 68, u 69, .int .i64 ((j + 1 : Nat) : Int), undef, undef, undef, undef, undef, undef, undef, undef, undef, undef, undef, undef, undef, undef, undef, undef, undef, undef, undef, undef, undef, undef, undef, undef, undef, undef, undef, undef] i undef, by omega, H2, ⟨g1.mono (fun _ _ => trivial)⟩, ?_, ⟨?_⟩, ?_, ⟨?_⟩, ⟨g4⟩, ?_, ?_⟩, ?_⟩
        · have := Plc.pos_len x l1 0
          rw [Back.came_length] at g3
          omega
        · intro D hD
          rcases List.mem_cons.mp hD with rfl | hD
          · exact hK
          · exact g5 D hD
        · intro D hD
          rcases List.mem_cons.mp hD with rfl | hD
          · omega
          · exact hDw D hD
        · exact List.pairwise_cons.mpr ⟨fun D hD e => hEn D hD e.symm, HP2.out⟩
        · have := (Array.getElem?_eq_some_iff.1 hK).1; omega
        · first | rfl | (simp; done) | (congr 1; simp; done)
        · simp [intOf]; omega
      case stop =>
        rintro D c pre W _ _ hx _
        exact hx.elim
    · have ej : j = l0.length := by omega
      subst ej
      have hg := HG.out
      rw [List.drop_length] at hg
      have e9 : some s1 = some s := hg
      obtain rfl := Option.some.inj e9
      have hsh := Rg.short_last (Rg.short_go (k := k) (b := l1) l0 (i := 0) (s := ([], [])) (q := s1) ⟨rfl, fun t ht => absurd ht (Nat.not_lt_zero _)⟩ HGO0.out)
      clear hg e9 HG
      rename_i hKK
      have HK := Aside0.mk hKK
      clear hKK
      gi_wp2
      refine HK.out _ _ (wpIn_wide.2 (Rg.tail (w := w) (w1 := w1) (k := k) (A0 := A0) (A1 := A1) (c0 := c0) (c1 := c1) (l0 := l0) (l1 := l1) (lr := lr) (nh := nh) (s := s1) (ms := ms) rfl rfl rfl rfl HR0.out hc0 HR1.out hc1 HREV.out HHITS.out HB.out HM.out (by omega) (by omega) HD.out HBw.out ?_))
      intro a' W' v' hd h4 h5 hR hb hm
      show LeavesInM _ _ _ _ _ _ _ _ _
      rw [hd]
      refine Rg.leaves w.heap.size (fun W => Kd.R k42 42 W w.heap.size (fun _ => True) v' lr ∧ Below w.heap.size w W) ?_ ?_ ms W' ⟨hR, hb⟩ (fun D hD => by have := hDw D hD; have := HB.out.size; omega) hm HP2.out
      · rintro W D ⟨r1, b1⟩ hD ho
        refine ⟨hunt_Run.R_put' r1 ho _, b1.grown (grownBy_putObj' W D _) b1.size (fun k e => by cases e; exact hD)⟩
      · rintro W ⟨r1, b1⟩
        exact ⟨_, Rg.res h4 h5, v', rfl, r1, b1⟩

/-! ### slices_Clone_int_int: function 27 -/
def slices_Clone_int_int.f (l0 : List Int) : Option (List Int) := if l0.length < 17592186044416 then some l0 else none
set_option maxHeartbeats 8000000 in
set_option maxRecDepth 100000 in
theorem slices_Clone_int_int.calls (A0 : Option Addr) (c0 : Nat) (l0 : List Int) (r : List Int) (w : World) (hr0 : Kd.C (Kd.int .i64) w A0 l0.length l0) (hc0 : l0.length ≤ c0) (h : slices_Clone_int_int.f l0 = some r) :
    Calls Try.prog 27 #[.slice A0 l0.length c0] w fun e w' => ∃ v0_ : Value, e = .returned (v0_) ∧ Kd.R (Kd.int .i64) 3 w' w.heap.size (fun _ => True) v0_ r ∧ Below w.heap.size w w' := by
  unfold slices_Clone_int_int.f at h
  by_cases c : l0.length < 17592186044416
  · rw [if_pos c] at h
    obtain rfl := Option.some.inj h
    clear h
    have HB := Aside0.mk (Below.refl w.heap.size w)
    cases A0 with
    | none =>
      have hn : l0 = [] := by
        cases l0 with
        | nil => rfl
        | cons x xs =>
          obtain ⟨ad, e, _⟩ := Kd.at_int hr0 0 (by omega) (by rw [List.length_cons]; omega)
          cases e
      subst hn
      clear hr0 hc0 c
      have qT : ∀ (w : World), (binOp .eql 25 (.slice none 0 c0) (.slice none 0 0)).run Try.prog w = .ok (.bool true) w := fun w => Lib.run_eql_slice_nil w _ _ _ _ _ _ _ Try.underlying25
      go_enter Try.func27, Try.ntmps27
      go_wp2
      go_ret
      exact ⟨_, by first | rfl | (simp [errW_none, errW_some] <;> rfl) | (simp [*, errW_none, errW_some] <;> rfl), by first | exact Kd.R_nil _ _ _ _ _, by repeat (first | (with_reducible first | exact HB.out | apply below_alloc | apply pw_below_drewN | apply below_drew1) | exact HB.out)⟩
    | some a0 =>
      have HR0 := Aside0.mk hr0
      have HC0 := Aside0.mk hc0
      have LMc := Aside0.mk c
      clear hr0 hc0 c
      obtain ⟨y120, hy120⟩ : ∃ y_ : List Int, y_ = (([] : List Int)) := ⟨_, rfl⟩
      have Ny120 := Aside0.mk hy120
      have Nl := Aside0.mk (show l0 = y120 ++ l0 by rw [hy120]; rfl)
      have Ny0 := Aside0.mk (show y120.length = 0 by rw [hy120]; rfl)
      clear hy120
      have qT : ∀ (w : World), (binOp .eql 25 (.slice (some a0) l0.length c0) (.slice none 0 0)).run Try.prog w = .ok (.bool false) w := fun w => Lib.run_eql_slice_nil w _ _ _ _ _ _ _ Try.underlying25
      go_enter Try.func27, Try.ntmps27
      go_wp2_with (first | ((with_reducible refine gate_dst (N := 5) rfl ?_); refine Kd.R_lit (Kd.int .i64) _ 3 ?hg (N := 5) ?hd (xs := ([] : List Int)) (inner := []) (ok := fun _ => True) (okp := fun _ => True) ?hr ?hp (fun _ hk => hk) trivial (Below.refl _ _) (Nat.le_refl _) (by simp) ?_; (case hd => rfl); (case hg => rfl); (case hr => first | (go_simp; done) | (go_simp; rfl)); (case hp => exact (Reps.none _ _)); intro v121 w3 ho4 hb hg_ hnew_; clear hg_ hnew_; (first | rw [← Ny120.out] at ho4 | (simp only [Int.reduceToNat] at ho4; rw [← Ny120.out] at ho4)); have n0_ := Aside0.mk (Kd.R_lower ho4 (below_size (by repeat (first | (with_reducible first | exact HB.out | apply below_alloc | apply pw_below_drewN | apply below_drew1) | exact HB.out)))); have n1_ := Aside0.mk (below_step (by repeat (first | (with_reducible first | exact HB.out | apply below_alloc | apply pw_below_drewN | apply below_drew1) | exact HB.out)) hb); clear HB; have HO122 := n0_; have HB := n1_; clear n0_ n1_; clear hb ho4) | ((with_reducible refine gate_builtin (b := .append) (xs := #[.tmp 5, .tmp 6]) rfl ?_); at_builtin; refine Kd.R_append_rows (Kd.int .i64) (w0 := w) w.heap.size rfl (.tmp 5) (.tmp 6) 25 3 (.int .i64 0) 8 rfl Try.underlying25 info3 rfl (by decide) (by omega) v121 y120 l0 _ _ _ (fun _ => True) (fun _ => False) rfl rfl ?aO ?aR (fun _ _ h => h) (fun _ h => h.elim) ?aF ?aB ?aS ?aL ?_; (case aR => repeat (first | exact (Kd.C_below HR0.out HB.out) | (with_reducible refine Kd.C_alloc ?_ _) | (with_reducible refine Kd.C_drewN ?_ _) | (with_reducible refine Kd.C_drew ?_))); (case aB => exact (by repeat (first | (with_reducible first | exact HB.out | apply below_alloc | apply pw_below_drewN | apply below_drew1) | exact HB.out))); (case aF => exact (fun _ _ => trivial)); (case aO => exact (by (with_reducible repeat (first | apply Kd.R_alloc | apply Kd.R_drewN | apply Kd.R_drew)); exact HO122.out)); (case aS => exact (below_size (by repeat (first | (with_reducible first | exact HB.out | apply below_alloc | apply pw_below_drewN | apply below_drew1) | exact HB.out)))); (case aL => have := LMc.out; have := Ny0.out; omega); intro v124 w5 ho hb hg hat; rw [← Nl.out] at ho; have n0_ := Aside0.mk (hb); have n1_ := Aside0.mk (ho); clear HB; clear HO122; have HB := n0_; have HO125 := n1_; clear n0_ n1_; clear ho hb hg hat))
      go_ret
      exact ⟨_, by first | rfl | (simp [errW_none, errW_some] <;> rfl) | (simp [*, errW_none, errW_some] <;> rfl), by (with_reducible repeat (first | apply Kd.R_alloc | apply Kd.R_drewN | apply Kd.R_drew)); exact HO125.out, by repeat (first | (with_reducible first | exact HB.out | apply below_alloc | apply pw_below_drewN | apply below_drew1) | exact HB.out)⟩
  · rw [if_neg c] at h
    exact absurd h (by simp)

/-! ### thresh_put: function 28 -/
def thresh_put.f (l0 : List Int) (a1 : Int) (a2 : Int) : Option (List Int) := if a2 = (l0.length : Int) then (if l0.length < 17592186044416 then (some (l0 ++ [a1])) else (none)) else (if 0 ≤ a2 then (if a2 < (l0.length : Int) then (some (l0.set (a2 : Int).toNat a1)) else (none)) else (none))
set_option maxHeartbeats 8000000 in
set_option maxRecDepth 100000 in
theorem thresh_put.calls (P0_ : Nat → Prop) (u9000_ : Value) (l0 : List Int) (a1 : Int) (a2 : Int) (r : List Int) (w0 w : World) (hB : Below w0.heap.size w0 w) (ho0 : Kd.R (Kd.int .i64) 3 w w0.heap.size P0_ u9000_ l0) (h : thresh_put.f l0 a1 a2 = some r) :
    Calls Try.prog 28 #[u9000_, .int .i64 a1, .int .i64 a2] w fun e w' => ∃ v0_ : Value, e = .returned (v0_) ∧ Kd.R (Kd.int .i64) 3 w' w0.heap.size (fun k_ => (P0_ k_ ∨ w.heap.size ≤ k_)) v0_ r ∧ Below w0.heap.size w0 w' ∧ Kept w w' (fun k_ => P0_ k_) := by
  have HO0 := Aside0.mk (show Kd.R (Kd.int .i64) 3 w w0.heap.size (fun k_ => (P0_ k_ ∨ w.heap.size ≤ k_)) u9000_ l0 from Kd.R_mono ho0 (fun k_ hk => (.inl hk)))
  have HK := Aside0.mk (Kept.refl w (fun k_ => P0_ k_))
  have HW0 := Aside0.mk hB.size
  have HB := Aside0.mk hB
  clear hB
  have H : (if a2 = (l0.length : Int) then (if l0.length < 17592186044416 then (some (l0 ++ [a1])) else (none)) else (if 0 ≤ a2 then (if a2 < (l0.length : Int) then (some (l0.set (a2 : Int).toNat a1)) else (none)) else (none))) = some r := h
  clear h
  by_cases c4 : a2 = (l0.length : Int)
  · rw [if_pos c4] at H
    have c4b0 : (a2 == (l0.length : Int)) = true := beq_iff_eq.mpr c4
    have c4b1 : (a2 != (l0.length : Int)) = false := bne_eq_false_iff_eq.mpr c4
    clear c4
    by_cases c5 : l0.length < 17592186044416
    · rw [if_pos c5] at H
      have LMc5 := Aside0.mk c5
      clear c5
      obtain ⟨y130, hy130⟩ : ∃ y_ : List Int, y_ = (l0 ++ [a1]) := ⟨_, rfl⟩
      replace H : (some y130) = some r := by first | (rw [hy130]; with_reducible exact H) | (have H2_ := (Option.bind_some _ _).symm.trans H; rw [hy130]; with_reducible exact H2_) | (have H2_ := (Option.bind_some _ _).symm.trans H; with_reducible exact H2_) | with_reducible exact H | (rw [hy130]; exact H) | exact H
      have Ny130 := Aside0.mk hy130
      clear hy130
      obtain rfl := Option.some.inj H
      obtain ⟨Ao6, co6, eo6⟩ := Kd.R_slice HO0.out
      subst eo6
      go_enter Try.func28, Try.ntmps28
      go_wp2_with (first | ((with_reducible refine gate_builtin (b := .append) (xs := #[.tmp 11, .tmp 13]) rfl ?_); at_builtin; refine Kd.R_append (Kd.int .i64) (w0 := w0) w0.heap.size rfl (.tmp 11) (.tmp 13) 25 3 (.int .i64 0) 8 rfl Try.underlying25 info3 rfl (by decide) (by omega) (.slice Ao6 l0.length co6) l0 a1 [.int .i64 a1] (fun k_ => (P0_ k_ ∨ w.heap.size ≤ k_)) (fun _ => False) rfl rfl ?aP (fun _ hk => hk.elim) ?aF ?aO ?aB ?aS ?aL ?_; (case aP => exact rfl); (case aB => exact (by repeat (first | (with_reducible first | exact HB.out | apply below_alloc | apply pw_below_drewN | apply below_drew1) | exact HB.out))); (case aF => exact (fun k_ hk => (.inr (Nat.le_trans (by first | exact HK.out.1 | exact (show Kept w _ (fun k_ => P0_ k_) from by repeat (first | (with_reducible first | exact HK.out | apply Kept.alloc | apply Kept.drewN | apply Kept.drew) | exact HK.out)).1) hk)))); (case aO => exact (by (with_reducible repeat (first | apply Kd.R_alloc | apply Kd.R_drewN | apply Kd.R_drew)); exact HO0.out)); (case aS => exact (below_size (by repeat (first | (with_reducible first | exact HB.out | apply below_alloc | apply pw_below_drewN | apply below_drew1) | exact HB.out)))); (case aL => have := LMc5.out; omega); intro v131 w7 ho hb hg hat; rw [← Ny130.out] at ho; have n0_ := Aside0.mk (hb); have n1_ := Aside0.mk (Kept.of_grown (S := (fun k_ => P0_ k_)) hg (by repeat (first | (with_reducible first | exact HK.out | apply Kept.alloc | apply Kept.drewN | apply Kept.drew) | exact HK.out)) (fun k_ e_ => (HO0.out.1 k_ e_))); have n2_ := Aside0.mk (ho); clear HB; clear HK; clear HO0; have HB := n0_; have HK := n1_; have HO132 := n2_; clear n0_ n1_ n2_; clear ho hb hg hat))
      go_ret
      exact ⟨_, by first | rfl | (simp [errW_none, errW_some] <;> rfl) | (simp [*, errW_none, errW_some] <;> rfl), by (with_reducible repeat (first | apply Kd.R_alloc | apply Kd.R_drewN | apply Kd.R_drew)); exact HO132.out, by repeat (first | (with_reducible first | exact HB.out | apply below_alloc | apply pw_below_drewN | apply below_drew1) | exact HB.out), by repeat (first | (with_reducible first | exact HK.out | apply Kept.alloc | apply Kept.drewN | apply Kept.drew) | exact HK.out)⟩
    · rw [if_neg c5] at H
      exact absurd H (by simp)
  · rw [if_neg c4] at H
    have c4b0 : (a2 == (l0.length : Int)) = false := beq_eq_false_iff_ne.mpr c4
    have c4b1 : (a2 != (l0.length : Int)) = true := bne_iff_ne.mpr c4
    by_cases c8 : 0 ≤ a2
    · rw [if_pos c8] at H
      have c8b0 : decide (0 ≤ a2) = true := decide_eq_true c8
      clear c8
      by_cases c9 : a2 < (l0.length : Int)
      · rw [if_pos c9] at H
        have c9b0 : decide (a2 < (l0.length : Int)) = true := decide_eq_true c9
        clear c9
        obtain ⟨y133, hy133⟩ : ∃ y_ : List Int, y_ = (l0.set (a2 : Int).toNat a1) := ⟨_, rfl⟩
        replace H : (some y133) = some r := by first | (rw [hy133]; with_reducible exact H) | (have H2_ := (Option.bind_some _ _).symm.trans H; rw [hy133]; with_reducible exact H2_) | (have H2_ := (Option.bind_some _ _).symm.trans H; with_reducible exact H2_) | with_reducible exact H | (rw [hy133]; exact H) | exact H
        have Ny133 := Aside0.mk hy133
        clear hy133
        obtain rfl := Option.some.inj H
        obtain ⟨Ao11, co11, eo11⟩ := Kd.R_slice HO0.out
        subst eo11
        have p10 : 0 ≤ (a2 : Int) := of_decide_eq_true (by first | (with_reducible assumption) | assumption)
        have q10 : (a2 : Int) < ((l0.length : Int) : Int) := of_decide_eq_true (by first | (with_reducible assumption) | assumption)
        obtain ⟨go10, co10, eo10, gb10, gl10, cl10, HG10⟩ := Kd.R_form HO0.out (by omega)
        (first | cases eo10 | (injection eo10 with ea_ en_ ec_; (first | subst ea_ | (injection ea_ with ea_; subst ea_)); subst ec_; clear en_))
        have GB10 := Aside0.mk gb10
        have GG10 := Aside0.mk HG10
        clear gb10 gl10 HG10
        have HMgo10 := Aside0.mk (show (P0_ go10 ∨ w.heap.size ≤ go10) from (HO0.out.1 _ rfl))
        obtain ⟨hx10_0, hf10_0⟩ := Kd.R_celln 0 HO0.out (a2 : Int) p10 q10
        replace p10 := eq_true p10
        replace q10 := eq_true q10
        have HP12 := Kd.R_putg HO0.out (a2 : Int) a1
        go_enter Try.func28, Try.ntmps28
        go_wp2_with (first | ((with_reducible refine gate_store (t := 3) (p := 18) rfl ?_); refine store_event (t := 3) (p := 18) (v := ?vo_w13) (w1 := (w.setCell ⟨go10, (a2 : Int).toNat, none⟩ (.int .i64 a1))) ?hg ?ho ?hn ?hr ?_; (case ho => rfl); (case hg => rfl); (case hn => rfl); (case hr => first | (go_simp; done) | (go_simp; rfl)); intro w13 hw; have hg : w.grownBy w13 (some go10) := (by rw [hw]; exact HP12.2); have hp_ : Kd.R (Kd.int .i64) 3 w13 w0.heap.size (fun k_ => (P0_ k_ ∨ w.heap.size ≤ k_)) (.slice (some ⟨go10, 0, none⟩) l0.length co11) y133 := (by rw [hw, Ny133.out]; exact HP12.1); clear HP12; have n0_ := Aside0.mk (hp_); have n1_ := Aside0.mk ((by rw [hw]; exact below_set (HB.out) GB10.out : Below w0.heap.size w0 w13)); have n2_ := Aside0.mk (Kept.of_grown (S := (fun k_ => P0_ k_)) hg (by repeat (first | (with_reducible first | exact HK.out | apply Kept.alloc | apply Kept.drewN | apply Kept.drew) | exact HK.out)) (fun k_ e_ => (HO0.out.1 k_ e_))); clear HO0; clear HB; clear HK; have HO0 := n0_; have HB := n1_; have HK := n2_; clear n0_ n1_ n2_; clear hg hw hp_))
        go_ret
        exact ⟨_, by first | rfl | (simp [errW_none, errW_some] <;> rfl) | (simp [*, errW_none, errW_some] <;> rfl), by (with_reducible repeat (first | apply Kd.R_alloc | apply Kd.R_drewN | apply Kd.R_drew)); exact HO0.out, by repeat (first | (with_reducible first | exact HB.out | apply below_alloc | apply pw_below_drewN | apply below_drew1) | exact HB.out), by repeat (first | (with_reducible first | exact HK.out | apply Kept.alloc | apply Kept.drewN | apply Kept.drew) | exact HK.out)⟩
      · rw [if_neg c9] at H
        exact absurd H (by simp)
    · rw [if_neg c8] at H
      exact absurd H (by simp)

/-! ### thresh_Row: function 22 -/
/-- The thresholds with places more, one by one. -/
def thresh_Row.go (k : Nat) : List Int → List Int → Option (List Int)
  | r, [] => some r
  | r, j :: js => (thresh_Find.f k r j).bind fun i => (thresh_put.f r j i).bind fun r' => thresh_Row.go k r' js
def thresh_Row.f (k : Nat) (l0 : List Int) (l1 : List Int) : Option (List Int) := if l0.length ≤ 1000000 ∧ l1.length ≤ 1000000 then (slices_Clone_int_int.f l0).bind fun r => thresh_Row.go k r l1.reverse else none
theorem thresh_Row.go_mono (k : Nat) : ∀ (js r : List Int), LeO (thresh_Row.go k r js) (thresh_Row.go (k + 1) r js)
  | [], r => LeO.refl _
  | j :: js, r => by
    show LeO ((thresh_Find.f k r j).bind fun i => (thresh_put.f r j i).bind fun r' => thresh_Row.go k r' js) ((thresh_Find.f (k + 1) r j).bind fun i => (thresh_put.f r j i).bind fun r' => thresh_Row.go (k + 1) r' js)
    exact LeO.bind (thresh_Find.mono r j k) fun i => LeO.bind (LeO.refl _) fun r' => thresh_Row.go_mono k js r'
theorem thresh_Row.mono : ∀ a0 a1 k, LeO (thresh_Row.f k a0 a1) (thresh_Row.f (k + 1) a0 a1) := by
  intro a0 a1 k
  unfold thresh_Row.f
  split
  · exact LeO.bind (LeO.refl _) fun r => thresh_Row.go_mono k _ r
  · exact LeO.refl _
theorem thresh_Row.wrap_id {i : Int} (h0 : -9223372036854775808 ≤ i) (h1 : i < 9223372036854775808) : wrap64 i = i := by unfold wrap64; omega
theorem thresh_Row.mid_id (i j : Nat) (h : i + j ≤ 4000000) : wrap64 ((IntKind.u64.wrap (wrap64 ((i : Int) + (j : Int)))) / 2) = (((i + j) / 2 : Nat) : Int) := by
  have e : IntKind.u64.wrap ((i + j : Nat) : Int) = ((i + j : Nat) : Int) := by simp [IntKind.wrap, IntKind.signed, IntKind.bits]; omega
  rw [thresh_Row.wrap_id (i := (i : Int) + (j : Int)) (by omega) (by omega), ← Int.natCast_add, e, thresh_Row.wrap_id (by omega) (by omega)]
  omega
theorem thresh_Row.less (a b : Int) : cmp_Less_int.f a b = some (decide (a < b)) := by
  unfold cmp_Less_int.f cmp_isNaN_int.f
  rw [Option.bind_some, if_neg (by simp)]
theorem thresh_Row.bin_total (x0 : List Int) (x1 : Int) (hl : x0.length ≤ 2000000) (d : Nat) : ∀ (k i j : Nat), i ≤ j → j ≤ x0.length → j - i ≤ d → d < k → ∃ (v : Nat) (b : Bool), slices_BinarySearch_int_int.l0 k x0 x1 (x0.length : Int) (i : Int) (j : Int) = some ((v : Int), b) ∧ v ≤ x0.length := by
  induction d with
  | zero =>
    intro k i j hij hj hd hk
    obtain ⟨k, rfl⟩ : ∃ m, k = m + 1 := ⟨k - 1, by omega⟩
    simp only [slices_BinarySearch_int_int.l0]
    rw [if_neg (by omega)]
    by_cases c : (i : Int) < (x0.length : Int)
    · rw [if_pos c, if_pos (by omega), if_pos c]
      by_cases e : rd x0 (i : Int) = x1
      · rw [if_pos e]; exact ⟨i, true, rfl, by omega⟩
      · rw [if_neg e]
        unfold slices_isNaN_int.f
        rw [Option.bind_some, if_neg (by simp)]
        exact ⟨i, false, rfl, by omega⟩
    · rw [if_neg c]; exact ⟨i, false, rfl, by omega⟩
  | succ d ih =>
    intro k i j hij hj hd hk
    obtain ⟨k, rfl⟩ : ∃ m, k = m + 1 := ⟨k - 1, by omega⟩
    by_cases q : i < j
    · simp only [slices_BinarySearch_int_int.l0]
      have em := Aside0.mk (thresh_Row.mid_id i j (by omega))
      rw [if_pos (by omega), em.out, if_pos (by omega), if_pos (by omega), thresh_Row.less, Option.bind_some]
      by_cases c : rd x0 ((((i + j) / 2 : Nat)) : Int) < x1
      · rw [if_pos (decide_eq_true c), thresh_Row.wrap_id (by omega) (by omega)]
        exact ih k ((i + j) / 2 + 1) j (by omega) hj (by omega) (by omega)
      · rw [if_neg (by simpa using c)]
        exact ih k i ((i + j) / 2) (by omega) (by omega) (by omega) (by omega)
    · obtain ⟨v, b, h1, h2⟩ := ih k i j hij hj (by omega) (by omega)
      exact ⟨v, b, slices_BinarySearch_int_int.mono_l k _ _ _ _ _ _ h1, h2⟩
theorem thresh_Row.find_total (r : List Int) (j : Int) (hl : r.length ≤ 2000000) : ∃ v : Nat, thresh_Find.f (r.length + 1) r j = some (v : Int) ∧ v ≤ r.length := by
  obtain ⟨v, b, h1, h2⟩ := thresh_Row.bin_total r j hl r.length (r.length + 1) 0 r.length (by omega) (by omega) (by omega) (by omega)
  refine ⟨v, ?_, h2⟩
  unfold thresh_Find.f slices_BinarySearch_int_int.f
  have e : ((0 : Nat) : Int) = 0 := rfl
  rw [e] at h1
  rw [h1, Option.bind_some]
theorem thresh_Row.put_total (r : List Int) (j : Int) (v : Nat) (hv : v ≤ r.length) (hl : r.length ≤ 2000000) : ∃ q, thresh_put.f r j (v : Int) = some q ∧ q.length ≤ r.length + 1 := by
  unfold thresh_put.f
  by_cases c : v = r.length
  · rw [if_pos (by omega), if_pos (by omega)]; exact ⟨_, rfl, by simp⟩
  · rw [if_neg (by omega), if_pos (by omega), if_pos (by omega)]; exact ⟨_, rfl, by simp⟩
/-- The thresholds behind places more, with however many rounds. -/
def thresh_Row.Steps : List Int → List Int → List Int → Prop
  | r, [], r' => r' = r
  | r, j :: js, r' => ∃ k i q, thresh_Find.f k r j = some i ∧ thresh_put.f r j i = some q ∧ thresh_Row.Steps q js r'
theorem thresh_Row.Steps.snoc {i j : Int} {q : List Int} {k : Nat} : ∀ {js r r' : List Int}, thresh_Row.Steps r js r' → thresh_Find.f k r' j = some i → thresh_put.f r' j i = some q → thresh_Row.Steps r (js ++ [j]) q
  | [], r, r', h, h1, h2 => by
    have e : r' = r := h
    subst e
    exact ⟨k, i, q, h1, h2, rfl⟩
  | x :: js, r, r', ⟨k', i', q', a, b, c⟩, h1, h2 => ⟨k', i', q', a, b, thresh_Row.Steps.snoc c h1 h2⟩
theorem thresh_Row.le_rounds {α : Type} {g : Nat → Option α} (hm : ∀ k, LeO (g k) (g (k + 1))) {a b : α} {i j : Nat} (h1 : g i = some a) (h2 : g j = some b) : a = b := by
  have up : ∀ n i a, g i = some a → g (i + n) = some a := by
    intro n
    induction n with
    | zero => intro i a h; exact h
    | succ n ih => intro i a h; rw [show i + (n + 1) = (i + n) + 1 by omega]; exact hm _ _ (ih i a h)
  have e1 := up j i a h1
  have e2 := up i j b h2
  rw [Nat.add_comm] at e1
  exact Option.some.inj (e1.symm.trans e2)
theorem thresh_Row.Steps.go {k : Nat} : ∀ {js r r' q : List Int}, thresh_Row.Steps r js r' → thresh_Row.go k r js = some q → q = r'
  | [], r, r', q, h, hg => by
    have e : r' = r := h
    have e2 : some r = some q := hg
    rw [e]; exact (Option.some.inj e2).symm
  | j :: js, r, r', q, ⟨k', i', q', a, b, c⟩, hg => by
    obtain ⟨i, h1, hg⟩ := Option.bind_eq_some_iff.mp (show ((thresh_Find.f k r j).bind fun i => (thresh_put.f r j i).bind fun r' => thresh_Row.go k r' js) = some q from hg)
    obtain ⟨q2, h2, hg⟩ := Option.bind_eq_some_iff.mp hg
    have e := thresh_Row.le_rounds (fun n => thresh_Find.mono r j n) h1 a
    subst e
    have e3 := Option.some.inj (h2.symm.trans b)
    subst e3
    exact thresh_Row.Steps.go c hg
theorem thresh_Row.R_turned {d : Kd Int} {e base : Nat} {ok : Nat → Prop} {v : Value} {xs : List Int} {W W' : World} {row : Option Nat} (h : d.R e W base ok v xs) (hg : W.grownBy W' row) (hr : ∀ r, row = some r → ∃ o : Obj, W.heap[r]? = some o ∧ o.isCells = false) : d.R e W' base ok v xs := by
  refine Kd.R_mono (Kd.R_step (Kd.R_bound h) (fun k hk hlt => hg.block k hlt (fun he => ?_))) (fun k hk => hk.1)
  obtain ⟨_, _, _, q, _, cells, hc⟩ := hk
  obtain ⟨o, ho, hn⟩ := hr k he.symm
  rw [hc] at ho
  cases ho
  cases hn
theorem thresh_Row.box_ne {d : Kd Int} {base : Nat} {ok : Nat → Prop} {v : Value} {xs : List Int} {W : World} {B : Nat} {u : Value} (h : d.R 3 W base ok v xs) (hb : Boxed W B 25 u) : some B ≠ v.ownBlock := by
  intro he
  obtain ⟨cells, hc⟩ := Kd.R_typed h B he.symm
  have hb' : W.heap[B]? = some (.cells #[u] 25 (0, 0)) := hb
  rw [hc] at hb'
  injection hb' with hb'
  injection hb' with _ h2
  exact absurd h2 (by decide)
/-- Between two rounds: the box holds the call's own row, behind the places that have come. -/
def thresh_Row.I (w : World) (B n : Nat) (u : Value) (r0 : List Int) (pre : List (Nat × Int)) (W : World) : Prop := ∃ (A : Option Addr) (c : Nat) (rr : List Int), Boxed W B 25 (.slice A rr.length c) ∧ Boxed W (B + 1) 25 u ∧ Kd.R (Kd.int .i64) 3 W w.heap.size (fun _ => True) (.slice A rr.length c) rr ∧ thresh_Row.Steps r0 (pre.map (·.2)) rr ∧ rr.length ≤ n + pre.length ∧ Below w.heap.size w W
theorem thresh_Row.boxed_turned {W W' : World} {B : Nat} {u : Value} {row : Option Nat} (hb : Boxed W B 25 u) (hg : W.grownBy W' row) (hr : ∀ r, row = some r → ∃ o : Obj, W.heap[r]? = some o ∧ o.isCells = false) : Boxed W' B 25 u := by
  refine hb.kept hg (fun he => ?_)
  obtain ⟨o, ho, hn⟩ := hr B he.symm
  have hb' : W.heap[B]? = some (.cells #[u] 25 (0, 0)) := hb
  rw [ho] at hb'
  cases hb'
  cases hn
theorem thresh_Row.I_own (w : World) (B n M : Nat) (u : Value) (r0 : List Int) (hM : w.heap.size ≤ M) : OwnFrom M (thresh_Row.I w B n u r0) := by
  rintro pre W W' row ⟨A, c, rr, hb, hbt, hr, hs, hl, hB⟩ hg hrow
  exact ⟨A, c, rr, thresh_Row.boxed_turned hb hg (fun r e => (hrow r e).2), thresh_Row.boxed_turned hbt hg (fun r e => (hrow r e).2), thresh_Row.R_turned hr hg (fun r e => (hrow r e).2), hs, hl, hB.grown hg hB.size (fun k e => Nat.le_trans hM (hrow k e).1)⟩
theorem thresh_Row.kept_others {d : Kd Int} {e base : Nat} {ok : Nat → Prop} {v : Value} {xs : List Int} {W W' : World} (h : d.R e W base ok v xs) (hk : Kept W W' (fun k => some k = v.ownBlock)) : KeepsOthers W W' := by
  refine ⟨hk.1, fun k o ho hn => (hk.2 k (blk_lt ho) (fun he => ?_)).trans ho⟩
  obtain ⟨cells, hc⟩ := Kd.R_typed h k he.symm
  rw [hc] at ho
  cases ho
  cases hn
theorem thresh_Row.keeps_of {d : Kd Int} {e n₀ B : Nat} {ok : Nat → Prop} {v u x : Value} {xs : List Int} {W W' : World} (h : d.R e W n₀ ok v xs) (hk : Kept W W' (fun k => some k = v.ownBlock)) (hb : Boxed W (B + 1) 25 u) (hne : some (B + 1) ≠ v.ownBlock) (hB : n₀ ≤ B) (hW : n₀ ≤ W.heap.size) : Back.Keeps n₀ (B + 1) W (W'.setCell ⟨B, 0, none⟩ x) := by
  refine ⟨fun i hi => ?_, ?_⟩
  · rw [Below.heap_setCell W' ⟨B, 0, none⟩ x i (by show i ≠ B; omega)]
    exact hk.2 i (by omega) (fun he => by have := Kd.R_base h i he.symm; omega)
  · rw [Below.heap_setCell W' ⟨B, 0, none⟩ x (B + 1) (by show B + 1 ≠ B; omega)]
    exact hk.2 _ hb.lt hne
attribute [local go_sem] Oper.semAt_some in
set_option maxHeartbeats 8000000 in
set_option maxRecDepth 100000 in
theorem thresh_Row.calls (k : Nat) (A0 : Option Addr) (c0 : Nat) (l0 : List Int) (A1 : Option Addr) (c1 : Nat) (l1 : List Int) (r : List Int) (w : World) (hr0 : Kd.C (Kd.int .i64) w A0 l0.length l0) (hc0 : l0.length ≤ c0) (hr1 : Kd.C (Kd.int .i64) w A1 l1.length l1) (hc1 : l1.length ≤ c1) (h : thresh_Row.f k l0 l1 = some r) :
    Calls Try.prog 22 #[.slice A0 l0.length c0, .slice A1 l1.length c1] w fun e w' => ∃ v0_ : Value, e = .returned (v0_) ∧ Kd.R (Kd.int .i64) 3 w' w.heap.size (fun _ => True) v0_ r ∧ Below w.heap.size w w' := by
  unfold thresh_Row.f at h
  by_cases q : l0.length ≤ 1000000 ∧ l1.length ≤ 1000000
  rotate_left
  · rw [if_neg q] at h
    exact absurd h (by simp)
  rw [if_pos q] at h
  obtain ⟨r0, hcl, h⟩ := Option.bind_eq_some_iff.mp h
  have HCL := Aside0.mk hcl
  have HGO := Aside0.mk h
  have HR0 := Aside0.mk hr0
  have HR1 := Aside0.mk hr1
  clear hcl h hr0 hr1
  refine (callsIn_wide (n := 9)).1 ?_
  refine callsIn_of_wp_marks Try.func22 rfl trivial ?_ rfl
  simp only [Try.ntmps22, List.size_toArray, List.length_cons, List.length_nil, Nat.reduceAdd, Nat.reduceSub, Array.replicate_succ, Array.replicate_zero, List.push_toArray, List.append_toArray, List.nil_append, List.cons_append]
  gi_wp2_with (first | (refine ⟨trivial, ?_⟩; gi_at_call 27; refine (callsIn_wide.2 (slices_Clone_int_int.calls A0 c0 l0 r0 w HR0.out hc0 HCL.out)).mono ?_; rintro e w1 ⟨v1, rfl, ho, hb⟩; obtain ⟨Av, cv, rfl⟩ := Kd.R_slice ho; have HO := Aside0.mk ho; have HB := Aside0.mk hb; clear ho hb) | (refine ⟨trivial, ?_⟩; gi_at_call 19; refine (Back.back_in Fence.wide _ trivial rfl _ _ _ _).mono ?_; rintro e w2 ⟨rfl, rfl⟩))
  have hz := World.size_alloc w1 (Obj.cells #[Value.slice Av r0.length cv] 25)
  have bx : Boxed ((w1.alloc (Obj.cells #[Value.slice Av r0.length cv] 25)).alloc (Obj.cells #[Value.slice A1 l1.length c1] 25)) w1.heap.size 25 (.slice Av r0.length cv) := (Boxed.new w1 25 _).alloc _
  have bs : Boxed ((w1.alloc (Obj.cells #[Value.slice Av r0.length cv] 25)).alloc (Obj.cells #[Value.slice A1 l1.length c1] 25)) (w1.heap.size + 1) 25 (.slice A1 l1.length c1) := by
    have := Boxed.new (w1.alloc (Obj.cells #[Value.slice Av r0.length cv] 25)) 25 (.slice A1 l1.length c1)
    rwa [hz] at this
  have hw1 := HB.out.size
  have bel : Below w.heap.size w ((w1.alloc (Obj.cells #[Value.slice Av r0.length cv] 25)).alloc (Obj.cells #[Value.slice A1 l1.length c1] 25)) := below_alloc (below_alloc HB.out _) _
  have own : Kd.R (Kd.int .i64) 3 ((w1.alloc (Obj.cells #[Value.slice Av r0.length cv] 25)).alloc (Obj.cells #[Value.slice A1 l1.length c1] 25)) w.heap.size (fun _ => True) (.slice Av r0.length cv) r0 := Kd.R_alloc (Kd.R_alloc HO.out _) _
  have ints : Back.Ints w.heap.size ((w1.alloc (Obj.cells #[Value.slice Av r0.length cv] 25)).alloc (Obj.cells #[Value.slice A1 l1.length c1] 25)) A1 l1 := by
    rcases Nat.eq_zero_or_pos l1.length with hn | hn
    · exact .inl (List.eq_nil_of_length_eq_zero hn)
    · obtain ⟨_, _, hh⟩ := Kd.reads_of_C (enc := Value.int .i64) (d := (0 : Int)) (h1 := fun _ => rfl) HR1.out
      obtain ⟨ad, ea, hcs⟩ := hh hn
      refine .inr ⟨ad, ea, ?_, fun j hj => ?_⟩
      · have := World.block_lt_of_cell? w _ (hcs 0 hn)
        rwa [Back.add_block_] at this
      · rw [← List.getD_eq_getElem?_getD]
        exact (bel.cell (World.block_lt_of_cell? w _ (hcs j hj))).trans (hcs j hj)
  have hr0l : r0.length ≤ 1000000 := by
    have hc := HCL.out
    unfold slices_Clone_int_int.f at hc
    split at hc
    · rw [← Option.some.inj hc]; exact q.1
    · exact absurd hc (by simp)
  obtain ⟨W0, hW0⟩ : ∃ W0, W0 = ((w1.alloc (Obj.cells #[Value.slice Av r0.length cv] 25)).alloc (Obj.cells #[Value.slice A1 l1.length c1] 25)) := ⟨_, rfl⟩
  have hsz : W0.heap.size = w1.heap.size + 2 := by rw [hW0, World.size_alloc, World.size_alloc]
  rw [← hW0] at bx bs bel own ints ⊢
  clear hW0 hz
  refine wpIn_rangeFunc_ownF rfl (by omega) (gf := 25) (lb := #[.pointer (some ⟨w1.heap.size + 1, 0, none⟩)]) rfl trivial (enters_of Try.func25 (by kernel_rfl) rfl)
    (Back.back_stops Fence.wide _ trivial rfl (by omega) (w1.heap.size + 1) w.heap.size A1 c1 l1 (by omega) W0 (by omega) (by omega) bs.cell ints)
    (fun h k => h.trans k) (fun W l o o' hB _ _ _ => Back.Keeps.putObj (B := W0.heap.size) (by omega) (by omega) W l o' hB) (Below.refl _ _) (fun _ => rfl)
    (thresh_Row.I w w1.heap.size 1000000 (.slice A1 l1.length c1) r0) (fun _ _ _ => False) (thresh_Row.I_own w _ _ _ _ r0 (by omega)) (fun _ _ _ _ _ hs _ _ => hs) ⟨Av, cv, r0, bx, bs, own, rfl, by simp; omega, bel⟩
    (fun x => { tmps := #[Value.slice A0 l0.length c0, Value.slice A1 l1.length c1, undef, undef, Value.slice none 0 0, Value.pointer (some { block := w1.heap.size, off := 0 }), undef, .int .i64 x.2, Value.slice A0 l0.length c0, Value.slice Av r0.length cv, Value.slice A1 l1.length c1, Value.func (Fn.func 25) #[] #[Value.pointer (some { block := w1.heap.size + 1, off := 0 })], .int .i64 (x.1 : Int), .int .i64 x.2, undef, undef, undef, undef, undef, undef, undef], defers := [] }) ?assign ?body ?done ?stop
  case assign =>
    intro l x W K hK
    gi_wp2
    exact hK
  case body =>
    rintro l pre x W ⟨A, c, rr, hb, hbt, hr, hs, hl, hB⟩ hpre
    obtain ⟨i, hF, hi⟩ := thresh_Row.find_total rr x.2 (by omega)
    obtain ⟨p, hP, hpl⟩ := thresh_Row.put_total rr x.2 i hi (by omega)
    have hC := (Kd.R_reads' hr).2.2
    have hcap := (Kd.R_reads' hr).2.1
    have hd : 1 ≤ 9 - 1 - 1 := by omega
    have hmx : Try.prog.follows .mixedOrders = true := by kernel_rfl
    have hcell := hb.cell
    have hfroz := hb.frozen
    have HF := Aside0.mk hF
    have HP := Aside0.mk hP
    have HR := Aside0.mk hr
    have HBd := Aside0.mk hb
    have HS := Aside0.mk hs
    have HBB := Aside0.mk hB
    have HCC := Aside0.mk hC
    have HBT := Aside0.mk hbt
    clear hF hP hr hb hs hB hC hbt
    gi_wp2
    gi_region_with_o (first | (refine ⟨trivial, ?_⟩; gi_at_call 20; refine (CallsIn.inRound l (callsIn_wide.2 (thresh_Find.calls (rr.length + 1) A c rr x.2 i _ ?c1 hcap HF.out))).mono ?_; (case c1 => first | exact HCC.out | exact Kd.C_drew HCC.out | exact Kd.C_drewN HCC.out _); rintro e w' ⟨rfl, ⟨nd, rfl⟩⟩) | (refine ⟨trivial, ?_⟩; gi_at_call 28; refine (CallsIn.inRound l (callsIn_wide.2 (thresh_put.calls (fun k => some k = (Value.slice A rr.length c).ownBlock) (.slice A rr.length c) rr x.2 i p w _ ?b1 ?b2 HP.out))).mono ?_; (case b1 => repeat (first | exact HBB.out | apply pw_below_drewN | apply below_drew1)); (case b2 => exact Kd.R_tight rfl (by repeat (first | exact HR.out | apply Kd.R_drewN | apply Kd.R_drew))); rintro e w' ⟨v0, rfl, ho, hb', hk⟩; obtain ⟨A', c', rfl⟩ := Kd.R_slice ho; have hbx : Boxed w' w1.heap.size 25 (.slice A rr.length c) := blk_kept (by repeat (first | exact HBd.out | refine blk_drewN ?_ _ | refine blk_drew ?_)) hk (thresh_Row.box_ne HR.out HBd.out); have hc' := hbx.cell; have hf' := hbx.frozen; have HBX := Aside0.mk hbx; have HO2 := Aside0.mk ho; have HB2 := Aside0.mk hb'; have HK2 := Aside0.mk hk; clear hbx ho hb' hk))
    all_goals gi_wp2
    all_goals
      have ne2 := thresh_Row.box_ne HR.out HBT.out
      have hk : Kept W w' (fun k => some k = (Value.slice A rr.length c).ownBlock) := HK2.out
      have hbs : Boxed w' (w1.heap.size + 1) 25 (.slice A1 l1.length c1) := blk_kept HBT.out hk ne2
      exact ⟨(thresh_Row.kept_others HR.out hk).trans (KeepsOthers.setCell _ _ _), thresh_Row.keeps_of HR.out hk HBT.out ne2 (by omega) HBB.out.size, A', c', p, Boxed.set _ HBX.out, blk_far hbs (by show w1.heap.size + 1 ≠ w1.heap.size; omega) _, Kd.R_mono (Kd.R_set HO2.out HBX.out (by simp [Kd.int, Kd.scalar]) 0 _) (fun _ _ => trivial), by rw [List.map_append]; exact thresh_Row.Steps.snoc HS.out HF.out HP.out, by rw [List.length_append, List.length_singleton]; omega, below_set HB2.out hw1⟩
  case done =>
    rintro D xs W hD rfl ⟨A, c, rr, hb, hbt, hr, hs, hl, hB⟩ hK
    clear hbt
    rw [Back.came_snd] at hs
    have er := thresh_Row.Steps.go hs HGO.out
    subst er
    have hcell := hb.cell
    have HR := Aside0.mk hr
    have HBB := Aside0.mk hB
    clear hr hb hs hB
    gi_wp2
    refine ⟨by simp, .inl ⟨_, _, rfl, run_takeDeferred hK, ?_⟩⟩
    exact ⟨_, results_tmp rfl _ _ _, _, rfl, thresh_Row.R_turned HR.out (grownBy_putObj' _ D (.deferred none)) (fun r e => by cases e; exact ⟨_, hK, rfl⟩), HBB.out.grown (grownBy_putObj' _ D (.deferred none)) HBB.out.size (fun k e => by cases e; omega)⟩
  case stop =>
    rintro D c pre W _ _ hx _
    exact hx.elim

end Go.Proofs.Ytkhplimibgjmoaa.PHuntFew
