/- The contracts of mask.New and of Of: of each number the row of its places, as bits. -/
import Derived.Test.YtjkjanegankdhaaGreatZHVec
import Derived.Test.YtjkjanegankdhaaGreatZShelf
import Derived.Sort.OwnSortedInts
import Derived.Maps.OwnOps
import Derived.Maps.OwnSet
namespace Go.Proofs.YtjkjanegankdhaaGreat.Vx
open Go.RowKit Go.Proofs.YtjkjanegankdhaaGreatW.PrintWords Go.Proofs.YtjkjanegankdhaaGreatW.PrintLast Go.Proofs.YtjkjanegankdhaaGreatW.PrintMore
attribute [local go_sem] max2_int min2_int max_two min_two max_three min_three max_four min_four
set_option linter.unusedVariables false
set_option linter.unusedSimpArgs false
/-! sorting and thinning a list of the call's own: the numbers that it has -/
theorem Mask.mem_compactUpTo (d : Array Int) (m : Nat) : ∀ x, x ∈ Lib.compactUpTo d m ↔ ∃ j, j < m ∧ d[j]! = x := by
  induction m with
  | zero => intro x; simp [Lib.compactUpTo]
  | succ m ih =>
    intro x
    rw [Lib.compactUpTo_succ, List.mem_append, ih]
    constructor
    · rintro (⟨j, h1, h2⟩ | h)
      · exact ⟨j, by omega, h2⟩
      · split at h
        · rw [List.mem_singleton] at h; exact ⟨m, by omega, h.symm⟩
        · simp at h
    · rintro ⟨j, h1, h2⟩
      by_cases e : j < m
      · exact Or.inl ⟨j, e, h2⟩
      · have ej : j = m := by omega
        subst ej
        by_cases c : Lib.keeps d j = true
        · exact Or.inr (by rw [if_pos c, h2]; exact List.mem_singleton.2 rfl)
        · have c2 : ¬ (j = 0 ∨ d[j]! ≠ d[j - 1]!) := by simpa [Lib.keeps] using c
          have c3 : j ≠ 0 := fun q => c2 (Or.inl q)
          have c4 : d[j]! = d[j - 1]! := Classical.byContradiction fun q => c2 (Or.inr q)
          exact Or.inl ⟨j - 1, by omega, by rw [← c4]; exact h2⟩
theorem Mask.mem_compact (zs : List Int) (x : Int) : x ∈ Lib.compact zs ↔ x ∈ zs := by
  unfold Lib.compact
  rw [Mask.mem_compactUpTo, List.mem_iff_getElem]
  constructor
  · rintro ⟨j, h1, h2⟩; exact ⟨j, h1, by simpa [h1] using h2⟩
  · rintro ⟨j, h1, h2⟩; exact ⟨j, h1, by simpa [h1] using h2⟩
theorem Mask.compact_len (zs : List Int) : (Lib.compact zs).length ≤ zs.length := by
  unfold Lib.compact Lib.compactUpTo
  rw [List.length_map]
  have := List.length_filter_le (Lib.keeps zs.toArray) (List.range zs.length)
  rwa [List.length_range] at this
/-- slices.Sort: the same numbers in the same row. -/
theorem Mask.sort_any (A : Option Addr) (c : Nat) (l : List Int) (w : World) (base : Nat) (ok : Nat → Prop) (h : Kd.R (Kd.int .i64) 3 w base ok (.slice A l.length c) l) (hl : l.length ≤ 1000000) :
    Calls Tryz.prog 128 #[.slice A l.length c] w fun e w' => e = .returned (.tuple #[]) ∧ ∃ s : List Int, s.length = l.length ∧ (∀ x, x ∈ s ↔ x ∈ l) ∧ Kd.R (Kd.int .i64) 3 w' base ok (.slice A l.length c) s ∧ w.grownBy w' (Value.slice A l.length c).ownBlock := by
  by_cases h0 : l = []
  · subst h0
    refine (Tryz.slices_Sort_int_none A c w).mono ?_
    rintro e w' ⟨rfl, rfl⟩
    exact ⟨rfl, [], rfl, fun _ => Iff.rfl, h, World.grownBy.refl _ _⟩
  · have ho := Kd.own_of_R h
    have hok := h.1
    rcases ho.2 with ⟨e, _⟩ | ⟨g, cap, cur, e, hb, hg, h1, h2, h3, h4⟩
    · exact absurd (List.eq_nil_iff_length_eq_zero.2 (by injection e)) h0
    · injection e with e1 e2 e3
      subst e1 e3
      rw [Nat.mul_one] at h4
      have hH := holds_of_blockI hg (ss := l) (by simpa [encs] using h4)
      refine (Tryz.slices_Sort_int g 0 c l w hH (blk_lt hg) (by omega)).mono ?_
      rintro e w' ⟨rfl, n, os, rfl⟩
      have hm : (l.mergeSort fun x y => decide (x ≤ y)).length = l.length := List.length_mergeSort _
      refine ⟨rfl, _, hm, fun x => List.mem_mergeSort, Kd.R_of_own (by rw [hm]; exact ownsRow_sortedI hm hb hg h1 h2 h3) hok, grownBy_sortedI _⟩
/-- slices.Compact: the same numbers, in the same row. -/
theorem Mask.compact_any (A : Option Addr) (c : Nat) (l : List Int) (w : World) (base : Nat) (ok : Nat → Prop) (h : Kd.R (Kd.int .i64) 3 w base ok (.slice A l.length c) l) (hl : l.length ≤ 1000000) :
    Calls Tryz.prog 129 #[.slice A l.length c] w fun e w' => ∃ s : List Int, e = .returned (.slice A s.length c) ∧ s.length ≤ l.length ∧ (∀ x, x ∈ s ↔ x ∈ l) ∧ Kd.R (Kd.int .i64) 3 w' base ok (.slice A s.length c) s ∧ w.grownBy w' (Value.slice A l.length c).ownBlock := by
  by_cases h0 : l = []
  · subst h0
    refine (Tryz.slices_Compact_int_empty A c w).mono ?_
    rintro e w' ⟨rfl, rfl⟩
    exact ⟨[], rfl, Nat.le_refl _, fun _ => Iff.rfl, h, World.grownBy.refl _ _⟩
  · have ho := Kd.own_of_R h
    have hok := h.1
    rcases ho.2 with ⟨e, _⟩ | ⟨g, cap, cur, e, hb, hg, h1, h2, h3, h4⟩
    · exact absurd (List.eq_nil_iff_length_eq_zero.2 (by injection e)) h0
    · injection e with e1 e2 e3
      subst e1 e3
      rw [Nat.mul_one] at h4
      have hH := holds_of_blockI hg (ss := l) (by simpa [encs] using h4)
      refine (Tryz.slices_Compact_int g 0 c l w hH (by omega) h1).mono ?_
      rintro e w' ⟨rfl, q, rfl⟩
      have hm : (Lib.compact l ++ List.replicate (l.length - (Lib.compact l).length) 0).length = l.length := by
        have := Mask.compact_len l
        rw [List.length_append, List.length_replicate]; omega
      have hw0 : ∀ W : World, Sort.grow W #[] = W := fun W => by simp [Sort.grow]
      have r1 := ownsRow_sortedI (n := q) (os := #[]) hm hb hg h1 h2 h3
      have r2 := grownBy_sortedI (w := w) (g := g) (n := q) (os := #[]) (Lib.compact l ++ List.replicate (l.length - (Lib.compact l).length) 0).toArray
      rw [hw0] at r1 r2
      have r3 : Kd.R (Kd.int .i64) 3 _ base ok (.slice (some ⟨g, 0, none⟩) l.length c) (Lib.compact l ++ List.replicate (l.length - (Lib.compact l).length) 0) := Kd.R_of_own (by rw [hm]; exact r1) hok
      have r4 := Kd.R_take r3 (m := (Lib.compact l).length) (by rw [hm]; exact Mask.compact_len l)
      rw [List.take_left' rfl] at r4
      exact ⟨_, rfl, Mask.compact_len l, Mask.mem_compact l, r4, r2⟩
/-! a map of rows: what stands at each number, as a slice's three parts -/
def Mask.hdr : Value → Option (DataW Unit × List MemPlace)
  | .slice (some ⟨g, 0, none⟩) n c => some (.slice [.lit (.int .i64 g), .lit (.int .i64 n), .lit (.int .i64 c)] [], [])
  | .slice none 0 0 => some (.nil, [])
  | _ => none
theorem Mask.hdr_inj {v v' : Value} {z : DataW Unit} {p p' : List MemPlace} (h : Mask.hdr v = some (z, p)) (h' : Mask.hdr v' = some (z, p')) : v = v' := by
  unfold Mask.hdr at h h'
  split at h
  · split at h'
    · injection h with h; injection h with h _
      injection h' with h'; injection h' with h' _
      rw [← h] at h'
      injection h' with h' _
      simp at h'
      obtain ⟨e1, e2, e3⟩ := h'
      have e1 := Int.ofNat.inj e1
      have e2 := Int.ofNat.inj e2
      have e3 := Int.ofNat.inj e3
      subst e1 e2 e3
      rfl
    · injection h with h; injection h with h _
      injection h' with h'; injection h' with h' _
      rw [← h] at h'; exact absurd h' (by simp)
    · exact absurd h' (by simp)
  · split at h'
    · injection h with h; injection h with h _
      injection h' with h'; injection h' with h' _
      rw [← h] at h'; exact absurd h' (by simp)
    · rfl
    · exact absurd h' (by simp)
  · exact absurd h (by simp)
/-- Block M is a map in which V stands at each number. -/
def Mask.MapV (W : World) (M n : Nat) (V : Int → Value) : Prop := ∃ D : DataW Unit, W.ownsMap Tryz.prog 3 Mask.hdr M n D ∧ ∀ x, (Lit.int .i64 x).wf = true → Mask.hdr (V x) = some (D.atKey (.int .i64 x) .nil, [])
theorem Mask.law : Maps.Keyed Tryz.prog 3 := Maps.int_keyed Tryz.underlying3
theorem Mask.key {x : Int} (h : (Lit.int .i64 x).wf = true) : keyOf Tryz.prog 3 (.int .i64 x) = some (.int .i64 x) := Maps.keyOf_int_mk Tryz.underlying3 h
theorem Mask.zero (w : World) : (zeroValue 62).run Tryz.prog w = .ok (.slice none 0 0) w := by kernel_rfl
theorem Mask.MapV.made (w : World) : Mask.MapV (w.alloc (.map #[] 0)) w.heap.size 0 (fun _ => .slice none 0 0) := ⟨.map [], World.ownsMap_made _ _ _ _, fun x _ => rfl⟩
theorem Mask.MapV.look {W : World} {M n : Nat} {V : Int → Value} (h : Mask.MapV W M n V) {x : Int} (hx : (Lit.int .i64 x).wf = true) : (Instr.lookup 179 (.map (some M)) (.int .i64 x) false).run Tryz.prog W = .ok (V x) W := by
  obtain ⟨D, h1, h2⟩ := h
  obtain ⟨v, ps, hr, hv⟩ := h1.lookup Mask.law Tryz.underlying179 (Mask.zero W) (zd := .nil) (zp := []) rfl (Mask.key hx)
  rw [hr, Mask.hdr_inj hv (h2 x hx)]
theorem Mask.MapV.put {W : World} {M n : Nat} {V : Int → Value} (h : Mask.MapV W M n V) {x : Int} (hx : (Lit.int .i64 x).wf = true) (hn : n < 2000000) (g m c : Nat) :
    ∃ W', (Instr.mapUpdate 179 (.map (some M)) (.int .i64 x) (.slice (some ⟨g, 0, none⟩) m c)).run Tryz.prog W = .ok () W' ∧ Mask.MapV W' M (n + 1) (fun y => if y = x then .slice (some ⟨g, 0, none⟩) m c else V y) ∧ W.grownBy W' (some M) := by
  obtain ⟨D, h1, h2⟩ := h
  obtain ⟨W', hr, h3, h4⟩ := h1.update Mask.law Tryz.underlying179 (by unfold maxLen; omega) (Mask.key hx) (d := .slice [.lit (.int .i64 g), .lit (.int .i64 m), .lit (.int .i64 c)] []) (ps := []) (val := .slice (some ⟨g, 0, none⟩) m c) rfl
  refine ⟨W', hr, ⟨_, h3, fun y hy => ?_⟩, h4⟩
  by_cases q : y = x
  · subst q
    show Mask.hdr (if y = y then _ else _) = _
    rw [if_pos rfl, Maps.atKey_put_same h1.isMap (show WideAt.IsKeyLit (.int .i64 y) from trivial)]
    rfl
  · show Mask.hdr (if y = x then _ else _) = _
    rw [if_neg q, Maps.atKey_put_other (by intro e; injection e with _ e; exact q e)]
    exact h2 y hy
theorem Mask.MapV.kept {W W' : World} {M n : Nat} {V : Int → Value} {row : Option Nat} (h : Mask.MapV W M n V) (hg : W.grownBy W' row) (hne : some M ≠ row) : Mask.MapV W' M n V := by
  obtain ⟨D, h1, h2⟩ := h
  exact ⟨D, h1.kept hg hne, h2⟩
theorem Mask.MapV.lt {W : World} {M n : Nat} {V : Int → Value} (h : Mask.MapV W M n V) : M < W.heap.size := by
  obtain ⟨D, h1, _⟩ := h
  exact h1.lt
theorem Mask.MapV.set {W : World} {M n : Nat} {V : Int → Value} (h : Mask.MapV W M n V) {a : Addr} (ha : M ≠ a.block) (u : Value) : Mask.MapV (W.setCell a u) M n V := by
  obtain ⟨D, h1, h2⟩ := h
  exact ⟨D, h1.setCell ha u, h2⟩
theorem Mask.MapV.below {W W' : World} {M n : Nat} {V : Int → Value} (h : Mask.MapV W M n V) (hb : Below W.heap.size W W') : Mask.MapV W' M n V := h.kept (grown_of_below hb none) (by simp)
theorem Mask.MapV.drew {W : World} {M n : Nat} {V : Int → Value} (h : Mask.MapV W M n V) : Mask.MapV W.drew M n V := h.below (Below.refl _ _).drew
theorem Mask.MapV.alloc {W : World} {M n : Nat} {V : Int → Value} (h : Mask.MapV W M n V) (o : Obj) : Mask.MapV (W.alloc o) M n V := h.below ((Below.refl _ _).alloc (Nat.le_refl _) _)
theorem Mask.make_run (N : Nat) (hN : N ≤ 20000) (w : World) : (Instr.makeSlice 62 (.int .i64 (N : Int)) (.int .i64 (N : Int))).run Tryz.prog w = .ok (.slice (some ⟨w.heap.size, 0, none⟩) N N) (w.alloc (.cells (madeCells #[.int .u64 0] N) 104)) := by
  obtain ⟨i, hi, hz⟩ := Option.map_eq_some_iff.1 Vec.inf104
  simp only [Prod.mk.injEq] at hz
  obtain ⟨h1, h2, h3⟩ := hz
  have := run_makeSlice (P := Tryz.prog) w 62 104 i (.int .u64 0) Tryz.underlying62 hi h1 .i64 .i64 (N : Int) (N : Int) (by omega) (by omega) (by rw [h2]; omega) (by rw [h3]; omega) (by omega)
  rw [h2, Nat.mul_one, Int.toNat_natCast] at this
  exact this
theorem Mask.made (N : Nat) (hN : N ≤ 20000) (w : World) (base : Nat) (hb : base ≤ w.heap.size) : Kd.R (Kd.int .u64) 104 (w.alloc (.cells (madeCells #[.int .u64 0] N) 104)) base (fun b => b = w.heap.size) (.slice (some ⟨w.heap.size, 0, none⟩) N N) (List.replicate N 0) := by
  have e : (madeCells #[.int .u64 0] N).toList = (List.replicate N (0 : Int)).map (Value.int .u64) := by
    refine List.ext_getElem (by simp [size_madeCells]) fun j h1 h2 => ?_
    simp [madeCells, Nat.mod_one]
  have ho : (w.alloc (.cells (madeCells #[.int .u64 0] N) 104)).ownsRow base 104 1 (.slice (some ⟨w.heap.size, 0, none⟩) N N) (List.replicate N (0 : Int)).length (encs (Value.int .u64) (List.replicate N 0)) := by
    rw [List.length_replicate]
    refine ⟨by simp [encs], .inr ⟨w.heap.size, N, _, rfl, hb, blk_new w _, Nat.le_refl _, by unfold maxLen; omega, by simp [size_madeCells], ?_⟩⟩
    rw [e, Nat.mul_one]
    exact List.take_of_length_le (by simp)
  exact Kd.R_of_own ho (fun k hk => by simpa [Value.ownBlock] using hk.symm)
/-- The bits of a number's places below t, in word q. -/
def Mask.word (l : List Int) (x : Int) : Nat → Nat → Nat
  | 0, _ => 0
  | t + 1, q => if rd l (t : Int) = x ∧ t / 64 = q then Mask.word l x t q ||| 2 ^ (t % 64) else Mask.word l x t q
theorem Mask.word_lt (l : List Int) (x : Int) (q : Nat) : ∀ t, Mask.word l x t q < 2 ^ 64
  | 0 => by simp [Mask.word]
  | t + 1 => by
    unfold Mask.word
    split
    · exact Nat.or_lt_two_pow (Mask.word_lt l x q t) (Nat.pow_lt_pow_right (by decide) (Nat.mod_lt _ (by decide)))
    · exact Mask.word_lt l x q t
def Mask.row (l : List Int) (x : Int) (t N : Nat) : List Int := (List.range N).map fun q => (Mask.word l x t q : Int)
theorem Mask.row_zero (l : List Int) (x : Int) (N : Nat) : List.replicate N 0 = Mask.row l x 0 N := by
  unfold Mask.row
  refine List.ext_getElem (by simp) fun i h1 h2 => by simp [Mask.word]
theorem Mask.row_same (l : List Int) {x : Int} {t N : Nat} (h : rd l (t : Int) ≠ x) : Mask.row l x (t + 1) N = Mask.row l x t N := by
  unfold Mask.row
  refine List.map_congr_left fun q _ => ?_
  rw [Mask.word, if_neg (fun e => h e.1)]
theorem Mask.row_set (l : List Int) {x : Int} {t N : Nat} (h : rd l (t : Int) = x) : (Mask.row l x t N).set (t / 64) ((Mask.word l x t (t / 64) ||| 2 ^ (t % 64) : Nat) : Int) = Mask.row l x (t + 1) N := by
  unfold Mask.row
  refine List.ext_getElem (by simp) fun i h1 h2 => ?_
  rw [List.getElem_set]
  by_cases e : t / 64 = i
  · rw [if_pos e]
    simp only [List.getElem_map, List.getElem_range]
    rw [Mask.word, if_pos ⟨h, e⟩, e]
  · rw [if_neg e]
    simp only [List.getElem_map, List.getElem_range]
    rw [Mask.word, if_neg (fun q => e q.2)]
theorem Mask.row_len (l : List Int) (x : Int) (t N : Nat) : (Mask.row l x t N).length = N := by simp [Mask.row]
/-- What mask.New keeps: the struct's block p, the map M of the rows. T: the numbers that have a row; row: what it holds. -/
structure Mask.St (B : Nat) (W : World) (p M n N : Nat) (sy : Value) (V : Int → Value) (k : Nat) (T : Int → Prop) (row : Int → List Int) : Prop where
  hp : W.heap[p]? = some (.cells #[.int .i64 n, sy, .map (some M)] 181 (0, 0))
  map : Mask.MapV W M k V
  nil : ∀ x, ¬ T x → V x = .slice none 0 0
  rows : ∀ x, T x → ∃ g c, V x = .slice (some ⟨g, 0, none⟩) N c ∧ B ≤ g ∧ Kd.R (Kd.int .u64) 104 W B (fun b => b = g) (V x) (row x)
  sep : ∀ x y, T x → T y → x ≠ y → (V x).ownBlock ≠ (V y).ownBlock
  lt : p < B ∧ M < B ∧ p ≠ M
theorem Mask.take_at (s : List Int) (k : Nat) (hk : k < s.length) : s.take (k + 1) = s.take k ++ [rd s (k : Int)] := by
  have e : rd s (k : Int) = s[k] := by unfold rd; simp [hk]
  rw [e, List.take_succ_eq_append_getElem hk]
/-- A row more. -/
theorem Mask.St.put {B p M n N k : Nat} {W W1 : World} {sy : Value} {V : Int → Value} {T T' : Int → Prop} {x : Int} (h : Mask.St B W p M n N sy V k T (fun _ => List.replicate N 0)) (hN : N ≤ 20000) (hB : B ≤ W.heap.size)
    (hT : ∀ y, T' y ↔ T y ∨ y = x)
    (hm : Mask.MapV W1 M (k + 1) (fun y => if y = x then .slice (some ⟨W.heap.size, 0, none⟩) N N else V y)) (hg : ((W.alloc (.cells (madeCells #[.int .u64 0] N) 104)).drew).grownBy W1 (some M))
    (hp : W1.heap[p]? = some (.cells #[.int .i64 n, sy, .map (some M)] 181 (0, 0))) :
    Mask.St B W1 p M n N sy (fun y => if y = x then .slice (some ⟨W.heap.size, 0, none⟩) N N else V y) (k + 1) T' (fun _ => List.replicate N 0) := by
  have hne : ∀ b : Nat, B ≤ b → some b ≠ some M := fun b hb e => by injection e with e; have := h.lt.2.1; omega
  refine ⟨hp, hm, fun y hy => ?_, fun y hy => ?_, fun y z hy hz hyz => ?_, h.lt⟩
  · have hy' : ¬ (T y ∨ y = x) := fun q => hy ((hT y).2 q)
    show (if y = x then _ else _) = _
    rw [if_neg (fun e => hy' (Or.inr e))]
    exact h.nil y (fun e => hy' (Or.inl e))
  · by_cases e : y = x
    · refine ⟨W.heap.size, N, by show (if y = x then _ else _) = _; rw [if_pos e], hB, ?_⟩
      show Kd.R _ _ _ _ _ (if y = x then _ else _) _
      rw [if_pos e]
      exact Kd.R_grown (Kd.R_drew (Mask.made N hN W B hB)) hg (fun b hb => by subst hb; exact hne _ hB)
    · obtain ⟨g, c, e1, e2, e3⟩ := h.rows y (((hT y).1 hy).resolve_right e)
      refine ⟨g, c, by show (if y = x then _ else _) = _; rw [if_neg e, e1], e2, ?_⟩
      show Kd.R _ _ _ _ _ (if y = x then _ else _) _
      rw [if_neg e]
      exact Kd.R_grown (Kd.R_drew (Kd.R_alloc e3 _)) hg (fun b hb => by subst hb; exact hne _ e2)
  · show (if y = x then _ else _ : Value).ownBlock ≠ (if z = x then _ else _ : Value).ownBlock
    by_cases e : y = x
    · rw [if_pos e, if_neg (fun q => hyz (e.trans q.symm))]
      obtain ⟨g, c, e1, e2, e3⟩ := h.rows z (((hT z).1 hz).resolve_right (fun q => hyz (e.trans q.symm)))
      have := Kd.R_lt e3 g (by rw [e1]; rfl)
      rw [e1]
      simp [Value.ownBlock]
      omega
    · rw [if_neg e]
      obtain ⟨g, c, e1, e2, e3⟩ := h.rows y (((hT y).1 hy).resolve_right e)
      by_cases f : z = x
      · rw [if_pos f]
        have := Kd.R_lt e3 g (by rw [e1]; rfl)
        rw [e1]
        simp [Value.ownBlock]
        omega
      · rw [if_neg f]
        exact h.sep y z (((hT y).1 hy).resolve_right e) (((hT z).1 hz).resolve_right f) hyz
/-- A bit more. -/
theorem Mask.St.bit {B p M n N k j g c : Nat} {W : World} {sy : Value} {V : Int → Value} {T : Int → Prop} {l : List Int} {x : Int} (h : Mask.St B W p M n N sy V k T (fun y => Mask.row l y j N)) (hT : T x) (hx : x = rd l (j : Int)) (e1 : V x = .slice (some ⟨g, 0, none⟩) N c) (hg : B ≤ g) :
    Mask.St B (W.setCell ⟨g, j / 64, none⟩ (.int .u64 ((Mask.word l x j (j / 64) ||| 2 ^ (j % 64) : Nat) : Int))) p M n N sy V k T (fun y => Mask.row l y (j + 1) N) := by
  have hl := h.lt
  refine ⟨blk_far h.hp (by show p ≠ g; omega) _, h.map.set (by show M ≠ g; omega) _, h.nil, fun y hy => ?_, h.sep, h.lt⟩
  obtain ⟨g', c', f1, f2, f3⟩ := h.rows y hy
  refine ⟨g', c', f1, f2, ?_⟩
  by_cases e : y = x
  · subst e
    rw [e1] at f1 f3 ⊢
    injection f1 with f1 _ f4
    injection f1 with f1
    injection f1 with f1
    subst f1 f4
    have h2 := (Kd.R_putg f3 ((j / 64 : Nat) : Int) ((Mask.word l y j (j / 64) ||| 2 ^ (j % 64) : Nat) : Int)).1
    rw [Int.toNat_natCast, Mask.row_set l hx.symm] at h2
    exact h2
  · rw [Mask.row_same l (fun q => e (q.symm.trans hx.symm))]
    refine Kd.R_far f3 (fun b hb => ?_) _
    have hs := h.sep y x hy hT e
    rw [f1, e1] at hs
    intro q
    apply hs
    simp [Value.ownBlock]
    show g' = g
    rw [← hb]; exact q
/-- A word with a bit more, as the walk spells it. -/
theorem Mask.or_bit (l : List Int) (x : Int) (j q : Nat) : Go.bits .or .u64 ((Mask.word l x j q : Nat) : Int) (IntKind.u64.wrap ((2 : Int) ^ (j % 64))) = ((Mask.word l x j q ||| 2 ^ (j % 64) : Nat) : Int) := by
  have hm : j % 64 < 64 := Nat.mod_lt _ (by decide)
  have hp := Vec.pow_lt hm
  rw [Vec.wu (by omega) hp.1]
  have e : (2 : Int) ^ (j % 64) = ((2 ^ (j % 64) : Nat) : Int) := by simp
  rw [e]
  exact (bits_nat .u64 64 (by decide) (fun n h0 h1 => Vec.wu h0 h1) _ _ (Mask.word_lt l x q j) (Nat.pow_lt_pow_right (by decide) hm)).2
/-- What mask.New leaves: of each number that stands in the list the row of its places. -/
structure Mask.Is (W : World) (p : Nat) (l : List Int) : Prop where
  ex : ∃ (M k : Nat) (sy : Value) (V : Int → Value), W.heap[p]? = some (.cells #[.int .i64 (l.length : Int), sy, .map (some M)] 181 (0, 0)) ∧ Mask.MapV W M k V ∧
    ∀ x, (x ∉ l → V x = .slice none 0 0) ∧ (x ∈ l → ∃ A c, V x = .slice A (Vec.words l.length) c ∧ Vec.words l.length ≤ c ∧ Kd.C (Kd.int .u64) W A (Vec.words l.length) (Mask.row l x l.length (Vec.words l.length)))
theorem Mask.Is.below {W W' : World} {p : Nat} {l : List Int} (h : Mask.Is W p l) (hb : Below W.heap.size W W') : Mask.Is W' p l := by
  obtain ⟨M, k, sy, V, h1, h2, h3⟩ := h.ex
  exact ⟨M, k, sy, V, blk_below h1 hb, h2.below hb, fun x => ⟨(h3 x).1, fun hx => by obtain ⟨A, c, e, hc, hr⟩ := (h3 x).2 hx; exact ⟨A, c, e, hc, Kd.C_below hr hb⟩⟩⟩
theorem Mask.St.is {B p M k : Nat} {W : World} {sy : Value} {V : Int → Value} {T : Int → Prop} {l : List Int} (h : Mask.St B W p M l.length (Vec.words l.length) sy V k T (fun y => Mask.row l y l.length (Vec.words l.length))) (hT : ∀ x, T x ↔ x ∈ l) : Mask.Is W p l := by
  refine ⟨M, k, sy, V, h.hp, h.map, fun x => ⟨fun hx => h.nil x (fun q => hx ((hT x).1 q)), fun hx => ?_⟩⟩
  obtain ⟨g, c, e1, e2, e3⟩ := h.rows x ((hT x).2 hx)
  rw [e1] at e3
  have h4 := Kd.R_reads' e3
  exact ⟨_, c, e1, h4.2.1, by have := h4.2.2; rwa [Mask.row_len] at this⟩
set_option maxRecDepth 100000 in
set_option maxHeartbeats 4000000 in
/-- mask.New -/
theorem Mask.new_calls (A : Option Addr) (c : Nat) (l : List Int) (w : World) (hr : Kd.C (Kd.int .i64) w A l.length l) (hc : l.length ≤ c) (hl : l.length ≤ 1000000) (hw : ∀ x ∈ l, (Lit.int .i64 x).wf = true) :
    Calls Tryz.prog 69 #[.slice A l.length c] w fun e w' => ∃ p, e = .returned (.pointer (some ⟨p, 0, none⟩)) ∧ Mask.Is w' p l ∧ Below w.heap.size w w' := by
  have HR := Aside0.mk hr
  have HC := Aside0.mk hc
  have HW := Aside0.mk hw
  clear hr hc hw
  have hmm := @run_makeMap Tryz.prog
  go_enter Tryz.func69, Tryz.ntmps69
  go_wp2_with fail
  obtain ⟨w1, hw1⟩ : ∃ z, z = (w.alloc (.map #[] 0)).alloc (.cells #[.int .i64 (l.length : Int), .slice none 0 0, .map (some w.heap.size)] 181) := ⟨_, rfl⟩
  have hz : (w.alloc (.map #[] 0)).heap.size = w.heap.size + 1 := World.size_alloc _ _
  have hz1 : w1.heap.size = w.heap.size + 2 := by rw [hw1, World.size_alloc, hz]
  have hp : w1.heap[w.heap.size + 1]? = some (.cells #[.int .i64 (l.length : Int), .slice none 0 0, .map (some w.heap.size)] 181 (0, 0)) := by rw [hw1, ← hz]; exact blk_new _ _
  have hm : Mask.MapV w1 w.heap.size 0 (fun _ => .slice none 0 0) := by rw [hw1]; exact (Mask.MapV.made w).alloc _
  have hb : Below w.heap.size w w1 := by
    rw [hw1]
    exact ((Below.refl _ _).alloc (Nat.le_refl _) _).alloc (by rw [hz]; omega) _
  rw [← hw1]
  have HZ := Aside0.mk hz1
  have HP := Aside0.mk hp
  have HM := Aside0.mk hm
  have HB := Aside0.mk hb
  clear hw1 hz hz1 hp hm hb
  obtain ⟨M, hM⟩ : ∃ M, M = w.heap.size := ⟨_, rfl⟩
  rw [← hM] at HP HM HZ ⊢
  have EM := Aside0.mk hM
  clear hM
  refine (Mask.clone.calls A c l l w1 (Kd.C_below HR.out (EM.out ▸ HB.out)) HC.out (by unfold Mask.clone.f; rw [if_pos (by omega)])).mono ?_
  rintro e w2 ⟨v, rfl, hv, hb⟩
  obtain ⟨As, cs, rfl⟩ := Kd.R_slice hv
  replace HP := Aside0.mk (blk_below HP.out hb)
  replace HM := Aside0.mk (HM.out.below hb)
  replace HB := Aside0.mk (below_step HB.out hb)
  rw [HZ.out] at hv
  have HS := Aside0.mk (Kd.R_mono (Kd.R_bound hv) (ok' := fun k => M + 2 ≤ k) (fun k hk => hk.2.1))
  have LT := Aside0.mk (show M + 2 ≤ w2.heap.size by have := hb.size; rw [HZ.out] at this; exact this)
  clear hv hb HZ
  have c1 : w2.cell? ⟨M + 1, 1, none⟩ = some (.slice none 0 0) := (blk_cell HP.out 1).trans rfl
  have f1 := blk_frozen HP.out 1
  go_wp2_with fail
  obtain ⟨w3, hw3⟩ : ∃ z, z = w2.setCell ⟨M + 1, 1, none⟩ (.slice As l.length cs) := ⟨_, rfl⟩
  have hp : w3.heap[M + 1]? = some (.cells #[.int .i64 (l.length : Int), .slice As l.length cs, .map (some M)] 181 (0, 0)) := by rw [hw3]; exact blk_put HP.out 1 _ rfl
  have hm : Mask.MapV w3 M 0 (fun _ => .slice none 0 0) := by rw [hw3]; exact HM.out.set (by simp) _
  have hs : Kd.R (Kd.int .i64) 3 w3 (M + 2) (fun k => M + 2 ≤ k) (.slice As l.length cs) l := by rw [hw3]; exact Kd.R_far HS.out (fun k hk => by simp; omega) _
  have hb : Below w.heap.size w w3 := by rw [hw3]; exact below_set HB.out (by rw [← EM.out]; omega)
  have hl3 : M + 2 ≤ w3.heap.size := by rw [hw3, World.size_setCell]; exact LT.out
  rw [← hw3]
  replace HP := Aside0.mk hp
  replace HM := Aside0.mk hm
  replace HB := Aside0.mk hb
  replace LT := Aside0.mk hl3
  clear hw3 hp hm hb hl3 c1 f1 HS
  refine (Mask.sort_any As cs l w3 _ _ hs hl).mono ?_
  rintro e w4 ⟨rfl, s1, hs1, hm1, hr1, hg⟩
  have hrow := Kd.R_base hs
  have hbl : Below w.heap.size w w4 := HB.out.grown hg HB.out.size (fun k hk => by have := hrow k hk; rw [← EM.out]; omega)
  replace HP := Aside0.mk (blk_grown HP.out hg (fun e => by have := hrow _ e.symm; omega))
  replace HM := Aside0.mk (HM.out.kept hg (fun e => by have := hrow _ e.symm; omega))
  replace HB := Aside0.mk hbl
  replace LT := Aside0.mk (Nat.le_trans LT.out hg.size)
  have HS1 := Aside0.mk hm1
  have hl1 : s1.length ≤ 1000000 := by omega
  have HL1 := Aside0.mk hs1
  rw [← hs1] at hr1
  clear hs1 hm1 hg hbl hrow hs
  have c1 : w4.cell? ⟨M + 1, 1, none⟩ = some (.slice As l.length cs) := (blk_cell HP.out 1).trans rfl
  have f1 := blk_frozen HP.out 1
  go_wp2_with fail
  have hcmp := Mask.compact_any As cs s1 w4 _ _ hr1 hl1
  rw [HL1.out] at hcmp
  refine hcmp.mono ?_
  clear hcmp
  rintro e w5 ⟨s, rfl, hls, hms, hrs, hg⟩
  have hrow := Kd.R_base hr1
  rw [← HL1.out] at hg
  have hbl : Below w.heap.size w w5 := HB.out.grown hg HB.out.size (fun k hk => by have := hrow k hk; rw [← EM.out]; omega)
  replace HP := Aside0.mk (blk_grown HP.out hg (fun e => by have := hrow _ e.symm; omega))
  replace HM := Aside0.mk (HM.out.kept hg (fun e => by have := hrow _ e.symm; omega))
  replace HB := Aside0.mk hbl
  replace LT := Aside0.mk (Nat.le_trans LT.out hg.size)
  have HMS := Aside0.mk (fun x => (hms x).trans (HS1.out x))
  have HRS := Aside0.mk hrs
  have hl2 : s.length ≤ 1000000 := by omega
  clear c1 f1 hls hms hrs hg hbl hrow hr1 HS1 HL1 hl1
  have c1 : w5.cell? ⟨M + 1, 1, none⟩ = some (.slice As l.length cs) := (blk_cell HP.out 1).trans rfl
  have f1 := blk_frozen HP.out 1
  go_wp2_with fail
  obtain ⟨N, hN⟩ : ∃ N, N = Vec.words l.length := ⟨_, rfl⟩
  have hN2 : N ≤ 20000 := by unfold Vec.words at hN; omega
  have HN := Aside0.mk hN
  obtain ⟨w6, hw6⟩ : ∃ z, z = w5.setCell ⟨M + 1, 1, none⟩ (.slice As s.length cs) := ⟨_, rfl⟩
  have hst : Mask.St (M + 2) w6 (M + 1) M l.length N (.slice As s.length cs) (fun _ => .slice none 0 0) 0 (fun x => x ∈ s.take 0) (fun _ => List.replicate N 0) := by
    rw [hw6]
    exact ⟨blk_put HP.out 1 _ rfl, HM.out.set (by simp) _, fun _ _ => rfl, fun x hx => absurd hx (by simp), fun x y hx => absurd hx (by simp), ⟨by omega, by omega, by omega⟩⟩
  have hs : Kd.R (Kd.int .i64) 3 w6 (M + 2) (fun k => M + 2 ≤ k) (.slice As s.length cs) s := by rw [hw6]; exact Kd.R_far HRS.out (fun k hk => by simp; omega) _
  have hb : Below w.heap.size w w6 := by rw [hw6]; exact below_set HB.out (by rw [← EM.out]; omega)
  have hl6 : M + 2 ≤ w6.heap.size := by rw [hw6, World.size_setCell]; exact LT.out
  rw [← hw6]
  have ST := Aside0.mk hst
  replace HRS := Aside0.mk hs
  replace HB := Aside0.mk hb
  replace LT := Aside0.mk hl6
  clear hw6 hst hs hb hl6 c1 f1 HM HP hN hmm
  go_loopw [36] (fun i wr => ∃ (k : Nat) (V : Int → Value), k ≤ s.length ∧ i = .int .i64 k ∧ Aside0 (Mask.St (M + 2) wr (M + 1) M l.length N (.slice As s.length cs) V k (fun x => x ∈ s.take k) (fun _ => List.replicate N 0)) ∧ Aside0 (Kd.R (Kd.int .i64) 3 wr (M + 2) (fun k => M + 2 ≤ k) (.slice As s.length cs) s) ∧ Aside0 (Below w.heap.size w wr) ∧ Aside0 (M + 2 ≤ wr.heap.size)) (fun i _ => s.length - (intOf i).toNat)
  case atStart => exact ⟨0, _, Nat.zero_le _, rfl, ST, HRS, HB, LT⟩
  case round =>
    clear ST HRS HB LT
    obtain ⟨k, V, hk, rfl, ST, HRS, HB, LT⟩ := hrel
    by_cases hlt : k < s.length
    · obtain ⟨ad, ea, hx⟩ := Kd.at_int (Kd.R_reads' HRS.out).2.2 (k : Int) (by omega) (by omega)
      subst ea
      rw [Int.toNat_natCast] at hx
      obtain ⟨x, ex⟩ : ∃ x, x = rd s (k : Int) := ⟨_, rfl⟩
      rw [← ex] at hx
      have EX := Aside0.mk ex
      clear ex
      have g0 : wr.cell? ⟨M + 1, 0, none⟩ = some (.int .i64 (l.length : Int)) := (blk_cell ST.out.hp 0).trans rfl
      have g2 : wr.cell? ⟨M + 1, 2, none⟩ = some (.map (some M)) := (blk_cell ST.out.hp 2).trans rfl
      go_wp2_with fail
      have hxs : x ∈ s := by
        have e : rd s (k : Int) = s[k] := by unfold rd; simp [hlt]
        rw [EX.out, e]; exact List.getElem_mem hlt
      have hxw := HW.out x ((HMS.out x).1 hxs)
      have hmk := Mask.make_run N hN2
      obtain ⟨w7, hupd, hm7, hg7⟩ := ((ST.out.map.alloc (.cells (madeCells #[.int .u64 0] N) 104)).drew).put hxw (by omega) wr.heap.size N N
      have HM7 := Aside0.mk hm7
      have HG7 := Aside0.mk hg7
      have HXW := Aside0.mk hxw
      have HXS := Aside0.mk hxs
      clear hm7 hg7 hxw hxs hx
      have hp7 : w7.heap[M + 1]? = some (.cells #[.int .i64 (l.length : Int), .slice (some ad) s.length cs, .map (some M)] 181 (0, 0)) := blk_grown (blk_drew (blk_alloc ST.out.hp _)) HG7.out (by simp)
      have g0' : w7.cell? ⟨M + 1, 0, none⟩ = some (.int .i64 (l.length : Int)) := (blk_cell hp7 0).trans rfl
      have g2' : w7.cell? ⟨M + 1, 2, none⟩ = some (.map (some M)) := (blk_cell hp7 2).trans rfl
      have HP7 := Aside0.mk hp7
      have hl7 : M + 1 < wr.heap.size := by have := LT.out; omega
      clear hp7
      go_region_held3 (fun w' => w'.cell? ⟨M + 1, 0, none⟩ = some (.int .i64 (l.length : Int)) ∧ w'.cell? ⟨M + 1, 2, none⟩ = some (.map (some M))) (go_keep) (first | (go_at_call 80; (with_reducible refine (Vec.words_any l.length (by omega) _).mono ?_); rintro e w9 ⟨rfl, rfl⟩; rw [← HN.out]))
      have et : ∀ y, y ∈ s.take (k + 1) ↔ y ∈ s.take k ∨ y = x := fun y => by rw [Mask.take_at s k hlt, ← EX.out, List.mem_append, List.mem_singleton]
      have ST7 := Aside0.mk (ST.out.put hN2 LT.out et HM7.out HG7.out HP7.out)
      have RS7 := Aside0.mk (Kd.R_grown (Kd.R_drew (Kd.R_alloc HRS.out (.cells (madeCells #[.int .u64 0] N) 104))) HG7.out (fun b hb e => by injection e with e; omega))
      have hb7 : Below w.heap.size w ((wr.alloc (.cells (madeCells #[.int .u64 0] N) 104)).drew) := (HB.out.alloc HB.out.size _).drew
      have HB7 := Aside0.mk (hb7.grown HG7.out hb7.size (fun b hb => by injection hb with hb; rw [← hb, EM.out]; exact Nat.le_refl _))
      have LT7 := Aside0.mk (show M + 2 ≤ w7.heap.size by have h1 := HG7.out.size; have h2 : (wr.alloc (.cells (madeCells #[.int .u64 0] N) 104)).drew.heap.size = wr.heap.size + 1 := World.size_alloc _ _; have := LT.out; omega)
      clear hupd g0 g2 g0' g2' et hb7 HM7 HG7 HP7 HXW HXS ST HRS HB LT hmk hl7
      go_wp2
      go_roundw
      case rel => exact ⟨k + 1, _, by omega, by go_num, ST7, RS7, HB7, LT7⟩
      case measure => simp [intOf]; omega
    · have ek : k = s.length := by omega
      subst ek
      clear hk hlt
      have hst : Mask.St (M + 2) wr (M + 1) M l.length N (.slice As s.length cs) V s.length (fun x => x ∈ s) (fun x => Mask.row l x 0 N) := by
        have h := ST.out
        rw [List.take_length] at h
        have e : (fun x => Mask.row l x 0 N) = (fun _ : Int => List.replicate N (0 : Int)) := funext fun x => (Mask.row_zero l x N).symm
        rw [e]; exact h
      replace ST := Aside0.mk hst
      clear hst HRS
      go_wp2_with fail
      go_loopw [54] (fun i W => ∃ j : Nat, j ≤ l.length ∧ i = .int .i64 j ∧ Aside0 (Mask.St (M + 2) W (M + 1) M l.length N (.slice As s.length cs) V s.length (fun x => x ∈ s) (fun x => Mask.row l x j N)) ∧ Aside0 (Below w.heap.size w W)) (fun i _ => l.length - (intOf i).toNat)
      case atStart => exact ⟨0, Nat.zero_le _, rfl, ST, HB⟩
      case round =>
        clear ST HB LT
        obtain ⟨j, hj, rfl, ST, HB⟩ := hrel
        by_cases hlt : j < l.length
        · obtain ⟨ad, ea, hx⟩ := Kd.at_int (Kd.C_below HR.out HB.out) (j : Int) (by omega) (by omega)
          subst ea
          rw [Int.toNat_natCast] at hx
          obtain ⟨x, ex⟩ : ∃ x, x = rd l (j : Int) := ⟨_, rfl⟩
          rw [← ex] at hx
          have hxl : x ∈ l := by
            have e : rd l (j : Int) = l[j] := by unfold rd; simp [hlt]
            rw [ex, e]; exact List.getElem_mem hlt
          obtain ⟨g, cg, e1, hg, hrow⟩ := ST.out.rows x ((HMS.out x).2 hxl)
          have hlook := ST.out.map.look (HW.out x hxl)
          rw [e1] at hlook hrow
          have hqN : j / 64 < N := by have := HN.out; unfold Vec.words at this; omega
          obtain ⟨hc, hf⟩ := Kd.R_celln 0 hrow ((j / 64 : Nat) : Int) (by omega) (by omega)
          rw [Int.toNat_natCast] at hc hf
          have ey : rdOf 0 (Mask.row l x j N) ((j / 64 : Nat) : Int) = (Mask.word l x j (j / 64) : Int) := by
            unfold rdOf Mask.row
            rw [Int.toNat_natCast, List.getD_eq_getElem?_getD, List.getElem?_map, List.getElem?_range hqN]; rfl
          rw [ey] at hc
          obtain ⟨y, ey2⟩ : ∃ y : Int, y = (Mask.word l x j (j / 64) : Int) := ⟨_, rfl⟩
          rw [← ey2] at hc
          have g0 : wr.cell? ⟨M + 1, 0, none⟩ = some (.int .i64 (l.length : Int)) := (blk_cell ST.out.hp 0).trans rfl
          have g2 : wr.cell? ⟨M + 1, 2, none⟩ = some (.map (some M)) := (blk_cell ST.out.hp 2).trans rfl
          have hd1 : (j : Int) / 64 < (N : Int) := by omega
          have hd0 : (0 : Int) ≤ (j : Int) / 64 := by omega
          have hdt : ((j : Int) / 64).toNat = j / 64 := by omega
          have EX := Aside0.mk ex
          have EY := Aside0.mk ey2
          have HG := Aside0.mk hg
          have HRW := Aside0.mk hrow
          have E1 := Aside0.mk e1
          have HXL := Aside0.mk hxl
          clear ex ey ey2 hg hrow e1 hxl hqN
          go_wp2_with (first | (go_at_call 80; (with_reducible refine (Vec.words_any l.length (by omega) _).mono ?_); rintro e w9 ⟨rfl, rfl⟩; rw [← HN.out]))
          rw [EY.out, Mask.or_bit]
          have ST2 := Aside0.mk (ST.out.bit ((HMS.out x).2 HXL.out) EX.out E1.out HG.out)
          have HB2 := Aside0.mk (below_set (j := j / 64) (v := .int .u64 ((Mask.word l x j (j / 64) ||| 2 ^ (j % 64) : Nat) : Int)) HB.out (show w.heap.size ≤ g by have := HG.out; rw [← EM.out]; omega))
          clear hc hf g0 g2 hd1 hd0 hdt hlook ST HB HRW HG EX EY E1 HXL hx
          go_roundw
          case rel => exact ⟨j + 1, by omega, by go_num, ST2, HB2⟩
          case measure => simp [intOf]; omega
        · have ej : j = l.length := by omega
          subst ej
          have h2 := ST.out
          rw [HN.out] at h2
          have h3 := h2.is HMS.out
          clear hj hlt ST h2
          go_wp2
          go_ret
          exact ⟨_, rfl, h3, HB.out⟩
theorem Mask.word_bit (l : List Int) (x : Int) (q i : Nat) : ∀ t, (Mask.word l x t q).testBit i = decide (i < 64 ∧ 64 * q + i < t ∧ rd l ((64 * q + i : Nat) : Int) = x)
  | 0 => by simp [Mask.word]
  | t + 1 => by
    have ih := Mask.word_bit l x q i t
    unfold Mask.word
    by_cases c : rd l (t : Int) = x ∧ t / 64 = q
    · rw [if_pos c, Nat.testBit_or, ih, Nat.testBit_two_pow]
      by_cases e : t % 64 = i
      · have ht : 64 * q + i = t := by omega
        rw [decide_eq_true e, Bool.or_true, ht]
        exact (decide_eq_true ⟨by omega, by omega, c.1⟩).symm
      · rw [decide_eq_false e, Bool.or_false]
        have : i < 64 → 64 * q + i ≠ t := fun h => by omega
        by_cases h1 : i < 64
        · have h2 := this h1
          by_cases h3 : 64 * q + i < t
          · simp [h1, h3, show 64 * q + i < t + 1 by omega]
          · simp [h3, show ¬ 64 * q + i < t + 1 by omega]
        · simp [h1]
    · rw [if_neg c, ih]
      by_cases h1 : i < 64
      · by_cases h2 : 64 * q + i = t
        · have hq : t / 64 = q := by omega
          have hx : rd l (t : Int) ≠ x := fun e => c ⟨e, hq⟩
          rw [h2]
          simp [hx]
        · by_cases h3 : 64 * q + i < t
          · simp [h1, h3, show 64 * q + i < t + 1 by omega]
          · simp [h3, show ¬ 64 * q + i < t + 1 by omega]
      · simp [h1]
theorem Mask.mask_bit (n k i : Nat) : (Vec.mask n k).testBit i = decide (i < 64 ∧ i < n - 64 * k) := by
  unfold Vec.mask
  by_cases c : 64 ≤ n - 64 * k
  · rw [if_pos c, show (18446744073709551615 : Nat) = 2 ^ 64 - 1 from rfl, Nat.testBit_two_pow_sub_one]
    by_cases h : i < 64
    · simp [h]; omega
    · simp [h]
  · rw [if_neg c, Nat.testBit_two_pow_sub_one]
    by_cases h : i < n - 64 * k
    · simp [h]; omega
    · simp [h]
theorem Mask.word_mask (l : List Int) (x : Int) (n k : Nat) : Mask.word l x n k &&& Vec.mask n k = Mask.word l x n k := by
  refine Nat.eq_of_testBit_eq fun i => ?_
  rw [Nat.testBit_and, Mask.word_bit, Mask.mask_bit, ← Bool.decide_and]
  refine decide_eq_decide.2 ⟨fun h => h.1, fun h => ⟨h, h.1, by have := h.2.1; omega⟩⟩
theorem Mask.word_none {l : List Int} {x : Int} (h : x ∉ l) (q : Nat) : Mask.word l x l.length q = 0 := by
  refine Nat.eq_of_testBit_eq fun i => ?_
  rw [Mask.word_bit, Nat.zero_testBit]
  refine decide_eq_false fun ⟨_, h2, h3⟩ => h ?_
  have e : rd l ((64 * q + i : Nat) : Int) = l[64 * q + i] := by unfold rd; rw [Int.toNat_natCast, List.getD_eq_getElem?_getD, List.getElem?_eq_getElem h2]; rfl
  rw [← h3, e]; exact List.getElem_mem h2
theorem Mask.w_row (l : List Int) (x : Int) (t N : Nat) {k : Nat} (hk : k < N) : Vec.w (Mask.row l x t N) k = Mask.word l x t k := by
  unfold Vec.w Mask.row rd
  rw [Int.toNat_natCast, List.getD_eq_getElem?_getD, List.getElem?_map, List.getElem?_range hk]
  simp
theorem Mask.fit_row (l : List Int) (x : Int) : ((List.range (Vec.words l.length)).map fun k => ((Vec.w (Mask.row l x l.length (Vec.words l.length)) k &&& Vec.mask l.length k : Nat) : Int)) = Mask.row l x l.length (Vec.words l.length) := by
  unfold Mask.row
  refine List.map_congr_left fun k hk => ?_
  have := Mask.w_row l x l.length _ (List.mem_range.1 hk)
  unfold Mask.row at this
  rw [this, Mask.word_mask]
theorem Mask.fit_none {l : List Int} {x : Int} (h : x ∉ l) : ((List.range (Vec.words l.length)).map fun k => ((Vec.w [] k &&& Vec.mask l.length k : Nat) : Int)) = Mask.row l x l.length (Vec.words l.length) := by
  unfold Mask.row
  refine List.map_congr_left fun k hk => ?_
  rw [Mask.word_none h]
  have e : Vec.w [] k = 0 := by unfold Vec.w rd; simp
  rw [e, Nat.zero_and]
theorem Mask.row_ok (l : List Int) (x : Int) (t N : Nat) : (Mask.row l x t N).all Vec.ok = true := by
  refine List.all_eq_true.2 fun y hy => ?_
  obtain ⟨q, _, rfl⟩ := List.mem_map.1 hy
  have := Mask.word_lt l x q t
  simp [Vec.ok]; omega
set_option maxRecDepth 100000 in
set_option maxHeartbeats 4000000 in
/-- (*Masks).Of -/
theorem Mask.of_calls (p : Nat) (l : List Int) (x : Int) (w : World) (h : Mask.Is w p l) (hl : l.length ≤ 1000000) (hx : (Lit.int .i64 x).wf = true) :
    Calls Tryz.prog 72 #[.pointer (some ⟨p, 0, none⟩), .int .i64 x] w fun e w' => ∃ v, e = .returned v ∧ Kd.R (Kd.int .u64) 104 w' w.heap.size (fun _ => True) v (Mask.row l x l.length (Vec.words l.length)) ∧ Below w.heap.size w w' := by
  obtain ⟨M, k, sy, V, hp, hm, hV⟩ := h.ex
  obtain ⟨A, c, r, er, hr, hrl, ho, hrow⟩ : ∃ (A : Option Addr) (c : Nat) (r : List Int), V x = .slice A r.length c ∧ Kd.C (Kd.int .u64) w A r.length r ∧ r.length ≤ c ∧ r.all Vec.ok = true ∧ ((List.range (Vec.words l.length)).map fun k => ((Vec.w r k &&& Vec.mask l.length k : Nat) : Int)) = Mask.row l x l.length (Vec.words l.length) := by
    by_cases hxl : x ∈ l
    · obtain ⟨A, c, e, hc, hr⟩ := (hV x).2 hxl
      have el := Mask.row_len l x l.length (Vec.words l.length)
      exact ⟨A, c, Mask.row l x l.length (Vec.words l.length), by rw [el, e], by rw [el]; exact hr, by rw [el]; exact hc, Mask.row_ok _ _ _ _, Mask.fit_row l x⟩
    · exact ⟨none, 0, [], (hV x).1 hxl, Kd.C_nil _ _, Nat.zero_le _, rfl, Mask.fit_none hxl⟩
  have hlook := hm.look hx
  have hlook2 := hm.drew.look hx
  rw [er] at hlook hlook2
  have g0 : w.cell? ⟨p, 0, none⟩ = some (.int .i64 (l.length : Int)) := (blk_cell hp 0).trans rfl
  have g2 : w.cell? ⟨p, 2, none⟩ = some (.map (some M)) := (blk_cell hp 2).trans rfl
  have HR := Aside0.mk hr
  have HO := Aside0.mk ho
  have HW := Aside0.mk hrow
  have HP := Aside0.mk hp
  clear hr ho hrow er hp hm hV h hrl
  go_enter Tryz.func72, Tryz.ntmps72
  go_wp2_with fail
  go_region_held3 (fun w' => w'.cell? ⟨p, 0, none⟩ = some (.int .i64 (l.length : Int)) ∧ w'.cell? ⟨p, 2, none⟩ = some (.map (some M))) (go_keep) (first | (go_at_call 131; (with_reducible refine (Vec.fit_calls A c r l.length w.drew (Kd.C_drew HR.out) hl HO.out).mono ?_); rintro e w2 ⟨v, rfl, hv, hb⟩; rw [HW.out] at hv; have HV := Aside0.mk hv; have HB := Aside0.mk hb; have hp2 := blk_below (blk_drew HP.out) hb; have k0 : w2.cell? ⟨p, 0, none⟩ = some (.int .i64 (l.length : Int)) := (blk_cell hp2 0).trans rfl; have k2 : w2.cell? ⟨p, 2, none⟩ = some (.map (some M)) := (blk_cell hp2 2).trans rfl; clear hv hb hp2))
  go_wp2
  go_ret
  exact ⟨_, rfl, Kd.R_lower HV.out (Nat.le_refl _), below_step (below_drew (Below.refl _ _)) HB.out⟩
end Go.Proofs.YtjkjanegankdhaaGreat.Vx
