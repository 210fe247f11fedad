/- russ.Run: what it computes. -/
import Derived.Test.YtpdjdffimighkaaZHRr
namespace Go.Proofs.Ytpdjdffimighkaa.Tile
open Go.RowKit Go.Proofs.Ytpdjdffimighkaa.PRussRuns Go.Proofs.YtpdjdffimighkaaW.PrintWords Go.Proofs.YtpdjdffimighkaaW.PrintLast Go.Proofs.YtpdjdffimighkaaW.PrintMore
set_option linter.unusedVariables false
set_option linter.unusedSimpArgs false
/-- The path back from a place of the table. -/
def pathF (la lb : List Int) : Nat → Nat → Nat → List (Nat × Nat)
  | 0, _, _ => []
  | F + 1, i, j => if 0 < i ∧ 0 < j then (if la.getD (i - 1) 0 = lb.getD (j - 1) 0 then (i - 1, j - 1) :: pathF la lb F (i - 1) (j - 1) else if Tb la lb i (j - 1) ≤ Tb la lb (i - 1) j then pathF la lb F (i - 1) j else pathF la lb F i (j - 1)) else []
theorem pathF_end {la lb : List Int} {F i j : Nat} (h : i = 0 ∨ j = 0) : pathF la lb F i j = [] := by
  cases F with
  | zero => rfl
  | succ F => rw [pathF, if_neg (by omega)]
def flatP (l : List (Nat × Nat)) : List Value := l.flatMap fun p => [.int .i64 (p.1 : Int), .int .i64 (p.2 : Int)]
theorem flatP_snoc (l : List (Nat × Nat)) (p : Nat × Nat) : flatP (l ++ [p]) = flatP l ++ [.int .i64 (p.1 : Int), .int .i64 (p.2 : Int)] := by
  unfold flatP; rw [List.flatMap_append]; simp
/-- Whatever is no row of pairs lies as it lay. -/
def Kp (W W' : World) : Prop := W.heap.size ≤ W'.heap.size ∧ ∀ (b : Nat) (c : Array Value) (e : TypeId), W.heap[b]? = some (.cells c e (0, 0)) → e ≠ 49 → W'.heap[b]? = some (.cells c e (0, 0))
theorem Kp.refl (W : World) : Kp W W := ⟨Nat.le_refl _, fun _ _ _ h _ => h⟩
theorem Kp.trans {A B C : World} (h : Kp A B) (k : Kp B C) : Kp A C := ⟨Nat.le_trans h.1 k.1, fun b c e hc he => k.2 b c e (h.2 b c e hc he) he⟩
theorem Kp.of_row {W W' : World} {nb m : Nat} {v : Value} {xs : List Value} (h : W.ownsRow nb 49 2 v m xs) (hk : Kept W W' (fun k => some k = v.ownBlock)) : Kp W W' := by
  refine ⟨hk.1, fun b c e hc he => (hk.2 b (blk_lt hc) (fun q => ?_)).trans hc⟩
  obtain ⟨cs, h2⟩ := own_typed h b q.symm
  rw [hc] at h2
  injection h2 with h2
  injection h2 with _ h3
  exact he h3
theorem Kp.below {W W' : World} (h : Below W.heap.size W W') : Kp W W' := ⟨h.size, fun b c e hc _ => (h.block b (blk_lt hc)).trans hc⟩
theorem own_kp {W W' : World} {B sz n : Nat} {e : TypeId} {v : Value} {xs : List Value} (h : W.ownsRow B e sz v n xs) (hk : Kp W W') (he : e ≠ 49) : W'.ownsRow B e sz v n xs := by
  refine own_move h (fun k hk' => ?_)
  obtain ⟨cs, hc⟩ := own_typed h k hk'
  rw [hc]; exact hk.2 k cs e hc he
theorem Lr.kp {W W' : World} {g m : Nat} {G : Nat → Int} (h : Lr W g m G) (hk : Kp W W') : Lr W' g m G := by
  obtain ⟨⟨c, hc⟩, h2⟩ := h
  have hc' := hk.2 g c 3 hc (by decide)
  exact ⟨⟨c, hc'⟩, fun j hj => (World.cell?_of_block (hc'.trans hc.symm)).trans (h2 j hj)⟩
theorem Ls.kp {W W' : World} {B m n : Nat} {al : Value} {gs cp : Nat → Nat} {G : Nat → Nat → Int} (h : Ls W B m n al gs cp G) (hk : Kp W W') : Ls W' B m n al gs cp G := ⟨own_kp h.own hk (by decide), fun r hr => (h.row r hr).kp hk, h.base⟩
theorem Rs.kp {W W' : World} {B wd n : Nat} {al : Value} {gs : Nat → Nat} {D : Nat → Nat → Int} (h : Rs W B wd n al gs D) (hk : Kp W W') : Rs W' B wd n al gs D := ⟨own_kp h.own hk (by decide), fun r hr => hk.2 _ _ _ (h.row r hr) (by decide), h.base⟩
theorem Tl.kp {W W' : World} {b t : Nat} (h : Tl W b t) (hk : Kp W W') : Tl W' b t := by
  refine ⟨h.1, ?_⟩
  rcases h.2 with h | ⟨g, h1, h2⟩
  · exact Or.inl (hk.2 _ _ _ h (by decide))
  · exact Or.inr ⟨g, hk.2 _ _ _ h1 (by decide), hk.2 _ _ _ h2 (by decide)⟩
theorem Ls.form {W : World} {B m n : Nat} {al : Value} {gs cp : Nat → Nat} {G : Nat → Nat → Int} (h : Ls W B m n al gs cp G) (hn : 0 < n) : ∃ gl cap, al = .slice (some ⟨gl, 0, none⟩) n cap ∧ B ≤ gl := by
  obtain ⟨gl, cap, rfl, _⟩ := World.ownsRow.form h.own hn
  exact ⟨gl, cap, rfl, own_base h.own gl rfl⟩
theorem Ls.at {W : World} {B m n gl cap : Nat} {gs cp : Nat → Nat} {G : Nat → Nat → Int} (h : Ls W B m n (.slice (some ⟨gl, 0, none⟩) n cap) gs cp G) {r : Nat} (hr : r < n) : W.cell? ⟨gl, r, none⟩ = some (.slice (some ⟨gs r, 0, none⟩) (m + 1) (cp r)) := by
  have := World.ownsRow.cellAt h.own r (by omega)
  rw [this]
  unfold rowsC
  simp [hr]
noncomputable def Rn.R (k : Nat) : Code := .region k (Ru.ops 10 k) false
noncomputable def Rn.D (k : Nat) : Code := .region k (Ru.ops 10 k) true
noncomputable def Rn.bodyP : Code := .seq (.seq (Rn.R 13) (.cond (.tmp 65) .skip (.exit 2))) (.block 3 (.block 4 (.seq (Rn.D 15) (.cond (.tmp 68) (.seq (Rn.R 16) (Rn.R 17)) (.seq (Rn.D 18) (.cond (.tmp 92) (Rn.R 19) (Rn.R 14)))))))
noncomputable def Rn.bodyK : Code := .seq (.seq (Rn.R 8) (.cond (.tmp 34) .skip (.exit 0))) (.seq (.block 1 (.seq (Rn.R 10) (.seq (Rn.D 11) (.seq (Rn.R 12) (.block 2 (.loop Rn.bodyP)))))) (Rn.R 9))
noncomputable def Rn.code : Code := .seq (Rn.R 0) (.seq (.seq (Rn.R 1) (.cond (.tmp 19) (.seq (Rn.R 2) .ret) .skip)) (.seq (Rn.R 3) (.seq (Rn.R 4) (.seq (Rn.R 5) (.seq (Rn.R 6) (.seq (.seq (Rn.R 7) (.block 0 (.loop Rn.bodyK))) (.seq (Rn.R 20) (.seq (Rn.R 21) .ret))))))))
example : Try.f10.body = some Rn.code := rfl
def Rn.LP : List Nat := 11 :: 12 :: 17 :: List.range' 59 57
theorem Rn.loopP {Q : Exit → Act → World → Prop} {w : World} {b f u nb B gl cpl c1 c2 : Nat} {A1 A2 : Option Addr} {la lb : List Int} {gs cp : Nat → Nat} {RR : List (Nat × Nat)} (hla : la.length ≤ 100) (hlb : lb.length ≤ 100) (hu : u ≤ la.length) (hnb : nb = w.heap.size) (hP : Rg.PQ Q)
    (Ha : ∀ W', Kept w W' (fun k => k = b) → Kd.C (Kd.int .i64) W' A1 la.length la) (Hb : ∀ W', Kept w W' (fun k => k = b) → Kd.C (Kd.int .i64) W' A2 lb.length lb) :
    ∀ (F i j : Nat) (a : Act) (W : World) (v : Value) (acc : List (Nat × Nat)) (Fp : Nat), i + j ≤ F → a.tmps.size = 128 → a.eval (.tmp 1) = .slice A1 la.length c1 → a.eval (.tmp 2) = .slice A2 lb.length c2 → a.eval (.tmp 11) = v → a.eval (.tmp 12) = .int .i64 (j : Int) → a.eval (.tmp 14) = .int .i64 (f : Int) → a.eval (.tmp 16) = .slice (some ⟨gl, 0, none⟩) (u - f + 1) cpl → a.eval (.tmp 17) = .int .i64 (i : Int) → f ≤ i → i ≤ u → j ≤ lb.length → Ls W B lb.length (u - f + 1) (.slice (some ⟨gl, 0, none⟩) (u - f + 1) cpl) gs cp (fun r => Tb la lb (f + r)) → W.ownsRow nb 49 2 v acc.length (flatP acc) → acc.length + (i + j) ≤ 1000 → Kept w W (fun k => k = b) → i + j ≤ Fp → acc ++ pathF la lb Fp i j = RR →
      (∀ a' W' v' acc' i' j' Fp', Ev.Stay Rn.LP a a' → a'.eval (.tmp 11) = v' → a'.eval (.tmp 12) = .int .i64 ((j' : Nat) : Int) → (i' = f ∨ j' = 0) → f ≤ i' → i' ≤ i → j' ≤ j → W'.ownsRow nb 49 2 v' acc'.length (flatP acc') → acc'.length + (i' + j') ≤ 1000 → Kept w W' (fun k => k = b) → Kp W W' → Below nb W W' → i' + j' ≤ Fp' → acc' ++ pathF la lb Fp' i' j' = RR → Q (.exit 2) a' W') → Code.rounds Try.prog Rn.bodyP Q (F + 1) a W := by
  intro F
  induction F with
  | zero =>
    intro i j a W v acc Fp hF hsz e1 e2 e11 e12 e14 e16 e17 hfi hiu hjm hL ho hlen hK hFp hRR hQ
    rw [rounds_succ]
    refine wp_seq (wp_seq (Rg.r13a hsz e17 e14 e12 (by omega) ?_))
    intro a1 k1 e
    refine wp_cond_false e (wp_exit ?_)
    show Q (.exit 2) a1 W
    exact hQ a1 W v acc i j Fp (k1.trans (Ev.Stay.refl [] _) (by decide) (by decide)) ((k1.2.2 11 (by decide)).trans e11) ((k1.2.2 12 (by decide)).trans e12) (Or.inr (by omega)) hfi (Nat.le_refl _) (Nat.le_refl _) ho hlen hK (Kp.refl _) (Below.refl _ _) hFp hRR
  | succ F ih =>
    intro i j a W v acc Fp hF hsz e1 e2 e11 e12 e14 e16 e17 hfi hiu hjm hL ho hlen hK hFp hRR hQ
    have stop : ∀ a1, Ev.Stay (List.range' 59 7) a a1 → (i = f ∨ j = 0) → Q (.exit 2) a1 W := fun a1 k1 h => hQ a1 W v acc i j Fp (k1.trans (Ev.Stay.refl [] _) (by decide) (by decide)) ((k1.2.2 11 (by decide)).trans e11) ((k1.2.2 12 (by decide)).trans e12) h hfi (Nat.le_refl _) (Nat.le_refl _) ho hlen hK (Kp.refl _) (Below.refl _ _) hFp hRR
    rw [rounds_succ]
    by_cases h1 : f < i
    · by_cases h2 : 0 < j
      · refine wp_seq (wp_seq (Rg.r13c hsz e17 e14 e12 h1 h2 ?_))
        intro a1 k1 e
        refine wp_cond_true e (wp_skip ?_)
        show Code.wp _ _ _ _ _
        obtain ⟨ad1, rfl, hx⟩ := (Kd.reads_of_C (d := (0 : Int)) (Ha W hK)).2.2 (by omega)
        obtain ⟨ad2, rfl, hy⟩ := (Kd.reads_of_C (d := (0 : Int)) (Hb W hK)).2.2 (by omega)
        have st1 : Ev.Stay Rn.LP a a1 := k1.trans (Ev.Stay.refl [] _) (by decide) (by decide)
        refine wp_block (wp_block (wp_seq (Rg.r15 (ad1 := ad1) (ad2 := ad2) (i := i) (j := j) (la := la) (lb := lb) (x := la.getD (i - 1) 0) (y := lb.getD (j - 1) 0) (st1.1.trans hsz) (fun c a a' w hd h => hP c a a' w hd h) ((st1.2.2 1 (by decide)).trans e1) ((st1.2.2 2 (by decide)).trans e2) ((k1.2.2 17 (by decide)).trans e17) ((k1.2.2 12 (by decide)).trans e12) (by omega) (by omega) h2 hjm (by omega) (by omega) (hx (i - 1) (by omega)) (hy (j - 1) (by omega)) ?_)))
        intro a2 k2 e68
        show Code.wp _ _ _ _ _
        have st2 : Ev.Stay Rn.LP a a2 := st1.trans k2 (fun _ h => h) (by decide)
        have f17 : a2.eval (.tmp 17) = .int .i64 (i : Int) := (k2.2.2 17 (by decide)).trans ((k1.2.2 17 (by decide)).trans e17)
        have f12 : a2.eval (.tmp 12) = .int .i64 (j : Int) := (k2.2.2 12 (by decide)).trans ((k1.2.2 12 (by decide)).trans e12)
        have f11 : a2.eval (.tmp 11) = v := (k2.2.2 11 (by decide)).trans ((k1.2.2 11 (by decide)).trans e11)
        obtain ⟨Fq, rfl⟩ : ∃ q, Fp = q + 1 := ⟨Fp - 1, by omega⟩
        rw [pathF, if_pos ⟨by omega, h2⟩] at hRR
        have hKd : Kept w W.drew (fun k => k = b) := hK
        by_cases hxy : la.getD (i - 1) 0 = lb.getD (j - 1) 0
        · rw [if_pos hxy] at hRR
          refine wp_cond_true (by rw [e68]; congr 1; simpa using hxy) ?_
          refine wp_seq (Rg.r16 (i := i) (j := j) (nb := nb) (m := acc.length) (xs := flatP acc) (st2.1.trans hsz) f11 f17 f12 ho.drew (by omega) (by rw [hnb]; exact hK.1) (by omega) (by omega) h2 (by omega) ?_)
          intro a3 v' W3 k3 e11' ho3 hK3 hB3
          show Code.wp _ _ _ _ _
          have hkp : Kp W W3 := Kp.of_row ho hK3
          refine Rg.r17 (i := i) (j := j) (k3.1.trans (st2.1.trans hsz)) ((k3.2.2 17 (by decide)).trans f17) ((k3.2.2 12 (by decide)).trans f12) (by omega) (by omega) h2 (by omega) ?_
          intro a4 k4 e17' e12'
          show Code.rounds _ _ _ _ _ _
          have st4 : Ev.Stay Rn.LP a a4 := (st2.trans k3 (fun _ h => h) (by decide)).trans k4 (fun _ h => h) (by decide)
          refine ih (i - 1) (j - 1) a4 W3 v' (acc ++ [(i - 1, j - 1)]) Fq (by omega) (st4.1.trans hsz) ((st4.2.2 1 (by decide)).trans e1) ((st4.2.2 2 (by decide)).trans e2) ((k4.2.2 11 (by decide)).trans e11') e12' ((st4.2.2 14 (by decide)).trans e14) ((st4.2.2 16 (by decide)).trans e16) e17' (by omega) (by omega) (by omega) (hL.kp hkp) (by rw [flatP_snoc, List.length_append, List.length_singleton]; exact ho3) (by rw [List.length_append, List.length_singleton]; omega) (hKd.then_ hK3 (fun k h => Or.inr (by have := own_base ho k h.symm; omega))) (by omega) (by rw [List.append_assoc]; exact hRR) ?_
          intro a' W' v2 acc' i' j' Fp' st' g11 g12 gx gf gi gj go gl' gK gkp gB gF gR
          exact hQ a' W' v2 acc' i' j' Fp' (st4.trans st' (fun _ h => h) (fun _ h => h)) g11 g12 gx gf (by omega) (by omega) go gl' gK (hkp.trans gkp) (((below_drew1 (Below.refl _ _)).trans hB3).trans gB) gF gR
        · rw [if_neg hxy] at hRR
          refine wp_cond_false (by rw [e68]; congr 1; simpa using hxy) ?_
          have l1 := hL.at (r := i - 1 - f) (by omega)
          have l2 := hL.at (r := i - f) (by omega)
          have r1 := (hL.row (i - 1 - f) (by omega)).2 j hjm
          have r2 := (hL.row (i - f) (by omega)).2 (j - 1) (by omega)
          rw [show f + (i - 1 - f) = i - 1 by omega] at r1
          rw [show f + (i - f) = i by omega] at r2
          refine wp_seq (Rg.r18 (gl := gl) (nl := u - f + 1) (cpl := cpl) (ra := gs (i - 1 - f)) (ca := cp (i - 1 - f)) (rb := gs (i - f)) (cb := cp (i - f)) (m := lb.length) (i := i) (f := f) (j := j) (x := Tb la lb (i - 1) j) (y := Tb la lb i (j - 1)) (st2.1.trans hsz) (fun c a a' w hd h => hP c a a' w hd h) ((st2.2.2 16 (by decide)).trans e16) f17 ((st2.2.2 14 (by decide)).trans e14) f12 h1 (by omega) (by omega) h2 hjm (by omega) ⟨l1, l2⟩ r1 r2 ?_)
          intro a3 k3 e92
          show Code.wp _ _ _ _ _
          have st3 : Ev.Stay Rn.LP a a3 := st2.trans k3 (fun _ h => h) (by decide)
          have g17 : a3.eval (.tmp 17) = .int .i64 (i : Int) := (k3.2.2 17 (by decide)).trans f17
          have g12' : a3.eval (.tmp 12) = .int .i64 (j : Int) := (k3.2.2 12 (by decide)).trans f12
          have g11' : a3.eval (.tmp 11) = v := (k3.2.2 11 (by decide)).trans f11
          have next : ∀ (a4 : Act) (i2 j2 : Nat), Ev.Stay Rn.LP a a4 → a4.eval (.tmp 11) = v → a4.eval (.tmp 12) = .int .i64 (j2 : Int) → a4.eval (.tmp 17) = .int .i64 (i2 : Int) → f ≤ i2 → i2 ≤ i → j2 ≤ j → i2 + j2 + 1 = i + j → acc ++ pathF la lb Fq i2 j2 = RR → Code.rounds Try.prog Rn.bodyP Q (F + 1) a4 W.drew.drew := by
            intro a4 i2 j2 st4 h11 h12 h17 q1 q2 q3 q4 q5
            refine ih i2 j2 a4 W.drew.drew v acc Fq (by omega) (st4.1.trans hsz) ((st4.2.2 1 (by decide)).trans e1) ((st4.2.2 2 (by decide)).trans e2) h11 h12 ((st4.2.2 14 (by decide)).trans e14) ((st4.2.2 16 (by decide)).trans e16) h17 q1 (by omega) (by omega) (hL.kp (Kp.refl W)) ho (by omega) hK (by omega) q5 ?_
            intro a' W' v2 acc' i' j' Fp' st' g11 g12 gx gf gi gj go gl' gK gkp gB gF gR
            exact hQ a' W' v2 acc' i' j' Fp' (st4.trans st' (fun _ h => h) (fun _ h => h)) g11 g12 gx gf (by omega) (by omega) go gl' gK gkp ((below_drew1 (below_drew1 (Below.refl _ _))).trans gB) gF gR
          by_cases hle : Tb la lb i (j - 1) ≤ Tb la lb (i - 1) j
          · rw [if_pos hle] at hRR
            refine wp_cond_true (by rw [e92, decide_eq_true hle]) ?_
            refine Rg.r19 (i := i) (st3.1.trans hsz) g17 (by omega) (by omega) ?_
            intro a4 k4 h17
            show Code.rounds _ _ _ _ _ _
            exact next a4 (i - 1) j (st3.trans k4 (fun _ h => h) (by decide)) ((k4.2.2 11 (by decide)).trans g11') ((k4.2.2 12 (by decide)).trans g12') h17 (by omega) (by omega) (Nat.le_refl _) (by omega) hRR
          · rw [if_neg hle] at hRR
            refine wp_cond_false (by rw [e92, decide_eq_false hle]) ?_
            refine Rg.r14 (i := j) (st3.1.trans hsz) g12' h2 (by omega) ?_
            intro a4 k4 h12
            show Code.rounds _ _ _ _ _ _
            exact next a4 i (j - 1) (st3.trans k4 (fun _ h => h) (by decide)) ((k4.2.2 11 (by decide)).trans g11') h12 ((k4.2.2 17 (by decide)).trans g17) hfi (Nat.le_refl _) (by omega) (by omega) hRR
      · refine wp_seq (wp_seq (Rg.r13b hsz e17 e14 e12 h1 (by omega) ?_))
        intro a1 k1 e
        refine wp_cond_false e (wp_exit ?_)
        show Q (.exit 2) a1 W
        exact stop a1 k1 (Or.inr (by omega))
    · refine wp_seq (wp_seq (Rg.r13a hsz e17 e14 e12 (by omega) ?_))
      intro a1 k1 e
      refine wp_cond_false e (wp_exit ?_)
      show Q (.exit 2) a1 W
      exact stop a1 k1 (Or.inl (by omega))
theorem part_C {W : World} {A1 : Option Addr} {c1 f u : Nat} {la : List Int} (h : Kd.C (Kd.int .i64) W A1 la.length la) (hc1 : la.length ≤ c1) (hfu : f < u) (hu : u ≤ la.length) : Kd.C (Kd.int .i64) W (if c1 = f then A1 else Option.map (fun x => x.add f) A1) ((la.drop f).take (u - f)).length ((la.drop f).take (u - f)) := by
  have hr := Kd.reads_of_C (d := (0 : Int)) h
  obtain ⟨ad, rfl, hc⟩ := hr.2.2 (by omega)
  have hl : ((la.drop f).take (u - f)).length = u - f := by rw [List.length_take, List.length_drop]; omega
  have hm := hr.2.1
  rw [if_neg (by omega), hl]
  refine Kd.C_of_reads (d := (0 : Int)) (h1 := fun _ => rfl) ⟨hl, by omega, fun _ => ⟨_, rfl, fun j hj => ?_⟩⟩
  have e := hc (f + j) (by omega)
  have ea : (ad.add f).add j = ad.add (f + j) := by unfold Addr.add; by_cases h1 : f = 0 <;> by_cases h2 : j = 0 <;> simp [h1, h2, Nat.add_assoc]
  rw [ea, e]
  congr 2
  rw [List.getD_eq_getElem?_getD, List.getD_eq_getElem?_getD, List.getElem?_take_of_lt hj, List.getElem?_drop]
theorem part_at {la : List Int} {f u r : Nat} (hu : u ≤ la.length) (hr : r < ((la.drop f).take (u - f)).length) : f + r < la.length ∧ ((la.drop f).take (u - f)).getD r 0 = la.getD (f + r) 0 := by
  rw [List.length_take, List.length_drop] at hr
  refine ⟨by omega, ?_⟩
  rw [List.getD_eq_getElem?_getD, List.getD_eq_getElem?_getD, List.getElem?_take_of_lt (by omega), List.getElem?_drop]
def Rn.LK : List Nat := 11 :: 12 :: 13 :: 14 :: 15 :: 16 :: 17 :: List.range' 33 83
theorem Rn.loopK {Q : Exit → Act → World → Prop} {w : World} {b t nb KA wd ga ca c1 c2 B0 : Nat} {A1 A2 : Option Addr} {la lb : List Int} {gs : Nat → Nat} {RR : List (Nat × Nat)} (ht : 1 ≤ t ∧ t ≤ 3) (hKA : KA = upN la.length t) (hwd : wd = upN lb.length t * t) (hla : la.length ≤ 100) (hlb : lb.length ≤ 100) (hc1 : la.length ≤ c1) (hc2 : lb.length ≤ c2) (hnb : nb = w.heap.size) (hP : Rg.PQ Q)
    (Ha : ∀ W', Kept w W' (fun k => k = b) → Kd.C (Kd.int .i64) W' A1 la.length la) (Hb : ∀ W', Kept w W' (fun k => k = b) → Kd.C (Kd.int .i64) W' A2 lb.length lb) :
    ∀ (kk j : Nat) (a : Act) (W : World) (v : Value) (acc : List (Nat × Nat)) (Fp : Nat), kk ≤ KA → a.tmps.size = 128 → a.eval (.tmp 1) = .slice A1 la.length c1 → a.eval (.tmp 2) = .slice A2 lb.length c2 → a.eval (.tmp 9) = .int .i64 (t : Int) → a.eval (.tmp 10) = .slice (some ⟨ga, 0, none⟩) (KA + 1) ca → a.eval (.tmp 11) = v → a.eval (.tmp 12) = .int .i64 (j : Int) → a.eval (.tmp 13) = .int .i64 ((kk : Int) - 1) → j ≤ lb.length → Rs W B0 wd (KA + 1) (.slice (some ⟨ga, 0, none⟩) (KA + 1) ca) gs (fun r => Dr la lb (r * t)) → W.ownsRow nb 49 2 v acc.length (flatP acc) → acc.length + (min (kk * t) la.length + j) ≤ 1000 → Kept w W (fun k => k = b) → Tl W b t → min (kk * t) la.length + j ≤ Fp → acc ++ pathF la lb Fp (min (kk * t) la.length) j = RR →
      (∀ a' W' v', Ev.Stay Rn.LK a a' → a'.eval (.tmp 11) = v' → W'.ownsRow nb 49 2 v' RR.length (flatP RR) → Kept w W' (fun k => k = b) → Tl W' b t → Below nb W W' → Q (.exit 0) a' W') → Code.rounds Try.prog Rn.bodyK Q (kk + 1) a W := by
  have hup := upN_mul (n := la.length) ht.1
  have hupb := upN_mul (n := lb.length) ht.1
  rw [← hKA] at hup
  intro kk
  induction kk with
  | zero =>
    intro j a W v acc Fp hkA hsz e1 e2 e9 e10 e11 e12 e13 hj hRs ho hlen hK hT hFp hRR hQ
    rw [rounds_succ]
    refine wp_seq (wp_seq (Rg.r8 (kk := 0) hsz e13 ?_))
    intro a1 k1 e
    refine wp_cond_false (by rw [e]; rfl) (wp_exit ?_)
    show Q (.exit 0) a1 W
    rw [Nat.zero_mul, Nat.zero_min, pathF_end (Or.inl rfl), List.append_nil] at hRR
    subst hRR
    exact hQ a1 W v (k1.trans (Ev.Stay.refl [] _) (by decide) (by decide)) ((k1.2.2 11 (by decide)).trans e11) ho hK hT (Below.refl _ _)
  | succ k ih =>
    intro j a W v acc Fp hkA hsz e1 e2 e9 e10 e11 e12 e13 hj hRs ho hlen hK hT hFp hRR hQ
    have hkt : (k + 1) * t = k * t + t := Nat.succ_mul k t
    have hkm : (k + 1) * t ≤ KA * t := Nat.mul_le_mul hkA (Nat.le_refl _)
    have hkk : k ≤ k * t := Nat.le_mul_of_pos_right k (by omega)
    have ek : (((k + 1 : Nat) : Int) - 1) = (k : Int) := by omega
    rw [rounds_succ]
    refine wp_seq (wp_seq (Rg.r8 (kk := k + 1) hsz e13 ?_))
    intro a1 k1 e
    refine wp_cond_true (by rw [e]; simp) (wp_skip ?_)
    show Code.wp _ _ _ _ _
    have f13 : a1.eval (.tmp 13) = .int .i64 (k : Int) := by rw [← ek]; exact (k1.2.2 13 (by decide)).trans e13
    obtain ⟨u, hu⟩ : ∃ u, u = min (k * t + t) la.length := ⟨_, rfl⟩
    have hfu : k * t < u := by omega
    have hul : u ≤ la.length := by omega
    refine wp_seq (wp_block (wp_seq (Rg.r10 (k := k) (t := t) (u := u) (k1.1.trans hsz) f13 ((k1.2.2 9 (by decide)).trans e9) ((k1.2.2 1 (by decide)).trans e1) (by omega) ht.2 hu (by rw [hu]; push_cast; omega) ?_)))
    intro a2 k2 e14 e15
    show Code.wp _ _ _ _ _
    have st2 : Ev.Stay Rn.LK a a2 := k1.trans k2 (by decide) (by decide)
    obtain ⟨ga', ca', hal, hgaB, hcell⟩ := hRs.form (by omega)
    injection hal with h1 h2 h3
    injection h1 with h1
    injection h1 with h1
    subst h1
    have hxl : ((la.drop (k * t)).take (u - k * t)).length = u - k * t := by rw [List.length_take, List.length_drop]; omega
    have hKd : Kept w W.drew (fun k => k = b) := hK
    have hlc := lines_calls (c1 := c1 - k * t) (c2 := c2) (A1 := if c1 = k * t then A1 else Option.map (fun x => x.add (k * t)) A1) (A2 := A2) (g := gs k) (wd := wd) (i := k * t) (la := la) (lb := lb) (xs := (la.drop (k * t)).take (u - k * t)) W.drew (show W.drew.heap[gs k]? = _ from hRs.row k (by omega)) (by omega) (by omega) hlb (by omega) (fun r hr => part_at hul hr) (part_C (Ha W.drew hKd) hc1 hfu hul) (Hb W.drew hKd)
    rw [hxl] at hlc
    refine wp_seq (Rg.r11 (ga := ga) (na := KA + 1) (ca := ca) (g := gs k) (wd := wd) (f := k * t) (u := u) (k := k) (la := la) (lb := lb) (c1 := c1) (c2 := c2) (A1 := A1) (A2 := A2) (RR := fun v W' => ∃ gs2 cp2, Ls W' W.heap.size lb.length (u - k * t + 1) v gs2 cp2 (fun r => Tb la lb (k * t + r)) ∧ Below W.heap.size W W') (st2.1.trans hsz) (fun c a a' w hd h => hP c a a' w hd h) ((st2.2.2 1 (by decide)).trans e1) ((st2.2.2 2 (by decide)).trans e2) e14 e15 ((st2.2.2 10 (by decide)).trans e10) ((k2.2.2 13 (by decide)).trans f13) (by omega) hul hc1 (by omega) rfl (hcell k (by omega)) (hlc.mono ?_) ?_)
    · rintro e w' ⟨al, gs2, cp2, rfl, hL, hB⟩
      exact ⟨al, rfl, gs2, cp2, hL, (below_drew1 (Below.refl W.heap.size W)).trans hB⟩
    rintro a3 v3 W3 k3 e16 ⟨gs2, cp2, hL, hB3⟩
    show Code.wp _ _ _ _ _
    have st3 : Ev.Stay Rn.LK a a3 := st2.trans k3 (fun _ h => h) (by decide)
    obtain ⟨gl, cpl, rfl, _⟩ := hL.form (by omega)
    refine wp_seq (Rg.r12 (u := u) (st3.1.trans hsz) ((k3.2.2 15 (by decide)).trans e15) ?_)
    intro a4 k4 e17
    show Code.wp _ _ _ _ _
    have st4 : Ev.Stay Rn.LK a a4 := st3.trans k4 (fun _ h => h) (by decide)
    refine wp_block (wp_loop_rounds (u + j + 1) ?_)
    have hu2 : min ((k + 1) * t) la.length = u := by rw [hkt, hu]
    rw [hu2] at hRR hFp hlen
    have Kb3 : Kept w W3 (fun k => k = b) := hK.below hB3
    refine Rn.loopP (w := w) (b := b) (f := k * t) (u := u) (nb := nb) (B := W.heap.size) (gl := gl) (cpl := cpl) (c1 := c1) (c2 := c2) (A1 := A1) (A2 := A2) (gs := gs2) (cp := cp2) (RR := RR) hla hlb hul hnb ?hP2 Ha Hb (u + j) u j a4 W3 v acc Fp (Nat.le_refl _) (st4.1.trans hsz) ((st4.2.2 1 (by decide)).trans e1) ((st4.2.2 2 (by decide)).trans e2) ((k4.2.2 11 (by decide)).trans ((k3.2.2 11 (by decide)).trans ((k2.2.2 11 (by decide)).trans ((k1.2.2 11 (by decide)).trans e11)))) ((k4.2.2 12 (by decide)).trans ((k3.2.2 12 (by decide)).trans ((k2.2.2 12 (by decide)).trans ((k1.2.2 12 (by decide)).trans e12)))) ((k4.2.2 14 (by decide)).trans ((k3.2.2 14 (by decide)).trans e14)) ((k4.2.2 16 (by decide)).trans e16) e17 (by omega) (Nat.le_refl _) hj hL (own_move ho (fun k hk => hB3.block k (own_lt ho k hk))) hlen Kb3 hFp hRR ?_
    case hP2 => exact fun c a a' w hd h => hP c a a' w hd h
    intro a5 W5 v5 acc5 i5 j5 Fp5 k5 e11' e12' hx hf5 hi5 hj5 ho5 hlen5 hK5 hKp5 hB5 hFp5 hRR5
    show Code.wp _ _ _ _ _
    have st5 : Ev.Stay Rn.LK a a5 := st4.trans k5 (fun _ h => h) (by decide)
    refine Rg.r9 (k := k) (st5.1.trans hsz) ((k5.2.2 13 (by decide)).trans ((k4.2.2 13 (by decide)).trans ((k3.2.2 13 (by decide)).trans ((k2.2.2 13 (by decide)).trans f13)))) (by omega) ?_
    intro a6 k6 e13'
    show Code.rounds _ _ _ _ _ _
    have st6 : Ev.Stay Rn.LK a a6 := st5.trans k6 (fun _ h => h) (by decide)
    have hmin : min (k * t) la.length = k * t := by omega
    have hKp : Kp W W5 := (Kp.below hB3).trans hKp5
    refine ih j5 a6 W5 v5 acc5 Fp5 (by omega) (st6.1.trans hsz) ((st6.2.2 1 (by decide)).trans e1) ((st6.2.2 2 (by decide)).trans e2) ((st6.2.2 9 (by decide)).trans e9) ((st6.2.2 10 (by decide)).trans e10) ((k6.2.2 11 (by decide)).trans e11') ((k6.2.2 12 (by decide)).trans e12') e13' (by omega) (hRs.kp hKp) ho5 (by rw [hmin]; omega) hK5 (hT.kp hKp) (by rw [hmin]; omega) ?_ ?_
    · rw [hmin]
      rcases hx with hx | hx
      · rw [← hx]; exact hRR5
      · rw [← hRR5, pathF_end (Or.inr hx), pathF_end (Or.inr hx)]
    · intro a' W' v' st' g11 go gK gT gB
      exact hQ a' W' v' (st6.trans st' (fun _ h => h) (fun _ h => h)) g11 go gK gT (((hB3.mono (by rw [hnb]; exact hK.1)).trans hB5).trans gB)
theorem snoc_ind' {α : Type} {P : List α → Prop} (h0 : P []) (h1 : ∀ l x, P l → P (l ++ [x])) (l : List α) : P l := by
  have q : ∀ m : List α, P m.reverse := by
    intro m
    induction m with
    | nil => exact h0
    | cons x m ih => rw [List.reverse_cons]; exact h1 _ _ ih
  have := q l.reverse
  rwa [List.reverse_reverse] at this
def pairsP (l : List (Nat × Nat)) : List S49 := l.map fun p => ⟨(p.1 : Int), (p.2 : Int)⟩
theorem pairs_reps {W : World} {base : Nat} {ok : Nat → Prop} (l : List (Nat × Nat)) : Reps (k49.M W base ok) 2 (pairsP l) (flatP l) := by
  refine snoc_ind' (P := fun l => Reps (k49.M W base ok) 2 (pairsP l) (flatP l)) (Reps.none _ _) (fun l p h => ?_) l
  rw [flatP_snoc, show pairsP (l ++ [p]) = pairsP l ++ [⟨(p.1 : Int), (p.2 : Int)⟩] by simp [pairsP]]
  exact h.snoc (k49_mkM W base ok ⟨(p.1 : Int), (p.2 : Int)⟩) rfl
theorem Rn.res {a : Act} {W : World} {v : Value} {x y : Int} (h6 : a.eval (.tmp 6) = v) (h7 : a.eval (.tmp 7) = .int .i64 x) (h8 : a.eval (.tmp 8) = .int .i64 y) : (results Try.f10 a.tmps).run Try.prog W = .ok (.tuple #[v, .int .i64 x, .int .i64 y]) W := by
  have e6 : a.tmps[6]?.getD undef = v := by simpa [Act.eval] using h6
  have e7 : a.tmps[7]?.getD undef = .int .i64 x := by simpa [Act.eval] using h7
  have e8 : a.tmps[8]?.getD undef = .int .i64 y := by simpa [Act.eval] using h8
  simp [results, Try.results10, go_sem, e6, e7, e8]
set_option maxRecDepth 100000 in
/-- russ.Run: the path back turned round, how many squares there are. -/
theorem run_calls {b t n0 : Nat} {A1 A2 : Option Addr} {c1 c2 : Nat} {la lb : List Int} (w : World) (hT : Tl w b t) (hla : la.length ≤ 100) (hlb : lb.length ≤ 100) (hc1 : la.length ≤ c1) (hc2 : lb.length ≤ c2) (hn0 : n0 ≤ b) {kr : Nat} {lr : List S49} (hrev : api_Pair.f kr (pairsP (pathF la lb (la.length + lb.length) la.length lb.length)) = some lr)
    (Ha : ∀ W', Kept w W' (fun k => k = b) → Kd.C (Kd.int .i64) W' A1 la.length la) (Hb : ∀ W', Kept w W' (fun k => k = b) → Kd.C (Kd.int .i64) W' A2 lb.length lb) :
    Calls Try.prog 10 #[.pointer (some ⟨b, 0, none⟩), .slice A1 la.length c1, .slice A2 lb.length c2] w fun e w' => ∃ v, e = .returned (.tuple #[v, .int .i64 ((upN la.length t * upN lb.length t : Nat) : Int), .int .i64 0]) ∧ Kd.R k49 49 w' w.heap.size (fun _ => True) v lr ∧ Tl w' b t ∧ Kept w w' (fun k => k = b) ∧ Below n0 w w' := by
  have ht := hT.1
  have hbs := hT.lt
  have hua := upN_mul (n := la.length) ht.1
  have hub := upN_mul (n := lb.length) ht.1
  have ka : upN la.length t ≤ upN la.length t * t := Nat.le_mul_of_pos_right _ (by omega)
  have kb : upN lb.length t ≤ upN lb.length t * t := Nat.le_mul_of_pos_right _ (by omega)
  have hmul : upN la.length t * upN lb.length t ≤ 200 * 200 := Nat.mul_le_mul (by omega) (by omega)
  refine calls_of_wp Try.func10 rfl ?_
  show Rn.code.wp _ _ _ _
  generalize hR : (fun (e : Ending) (w' : World) => ∃ v, e = .returned (.tuple #[v, .int .i64 ((upN la.length t * upN lb.length t : Nat) : Int), .int .i64 0]) ∧ Kd.R k49 49 w' w.heap.size (fun _ => True) v lr ∧ Tl w' b t ∧ Kept w w' (fun k => k = b) ∧ Below n0 w w') = R
  have hP : Rg.PQ (bodyPost Try.prog Try.f10 R) := fun c a a' w hd h => ⟨hd.trans h.1, h.2⟩
  obtain ⟨a0, ha0⟩ : ∃ a0 : Act, a0 = { tmps := #[.pointer (some ⟨b, 0, none⟩), .slice A1 la.length c1, .slice A2 lb.length c2] ++ Array.replicate (Try.f10.ntmps - (#[.pointer (some ⟨b, 0, none⟩), .slice A1 la.length c1, .slice A2 lb.length c2] : Array Value).size) undef, defers := [] } := ⟨_, rfl⟩
  have hsz : a0.tmps.size = 128 := by rw [ha0]; simp [Try.ntmps10]
  have e0 : a0.eval (.tmp 0) = .pointer (some ⟨b, 0, none⟩) := by rw [ha0]; exact Ev.entry rfl
  have e1 : a0.eval (.tmp 1) = .slice A1 la.length c1 := by rw [ha0]; exact Ev.entry rfl
  have e2 : a0.eval (.tmp 2) = .slice A2 lb.length c2 := by rw [ha0]; exact Ev.entry rfl
  have hd0 : a0.defers = [] := by rw [ha0]
  rw [← ha0]
  clear ha0
  refine wp_seq (Rg.r0 hsz ?_)
  intro a1 k1
  refine wp_seq (wp_seq (Rg.r1 (b := b) (k1.1.trans hsz) ((k1.2.2 0 (by decide)).trans e0) ?_))
  intro a2 k2 e19
  refine wp_cond_false e19 (wp_skip ?_)
  show Code.wp _ _ _ _ _
  have st2 : Ev.Stay [6, 7, 8, 18, 19] a0 a2 := k1.trans k2 (by decide) (by decide)
  refine wp_seq (Rg.r3 (b := b) (t := t) (st2.1.trans hsz) ((st2.2.2 0 (by decide)).trans e0) hT.cell ?_)
  intro a3 k3 e9
  have st3 : Ev.Stay [6, 7, 8, 9, 18, 19, 20, 21] a0 a3 := st2.trans k3 (by decide) (by decide)
  refine wp_seq (Rg.r4 (b := b) (A1 := A1) (A2 := A2) (c1 := c1) (c2 := c2) (la := la) (lb := lb) (st3.1.trans hsz) ((st3.2.2 0 (by decide)).trans e0) ((st3.2.2 1 (by decide)).trans e1) ((st3.2.2 2 (by decide)).trans e2) (RR := fun v w' => ∃ gs, Rs w' w.heap.size (upN lb.length t * t) (upN la.length t + 1) v gs (fun r => Dr la lb (r * t)) ∧ Tl w' b t ∧ Kept w w' (fun k => k = b) ∧ Below n0 w w') ((steps_calls (n0 := n0) w hT hla hlb hc1 hc2 hn0 Ha Hb).mono ?_) ?_)
  · rintro e w' ⟨al, gs, rfl, h⟩
    exact ⟨al, rfl, gs, h⟩
  rintro a4 v W k4 e10 ⟨gs, hRs, hT1, hK1, hB1⟩
  show Code.wp _ _ _ _ _
  obtain ⟨ga, cap, rfl, _, _⟩ := hRs.form (by omega)
  have st4 : Ev.Stay (List.range' 6 5 ++ List.range' 18 8) a0 a4 := st3.trans k4 (by decide) (by decide)
  refine wp_seq (Rg.r5 (st4.1.trans hsz) ?_)
  intro a5 k5 e11
  have st5 : Ev.Stay (List.range' 6 6 ++ List.range' 18 8) a0 a5 := st4.trans k5 (by decide) (by decide)
  refine wp_seq (Rg.r6 (A2 := A2) (c2 := c2) (lb := lb) (st5.1.trans hsz) ((st5.2.2 2 (by decide)).trans e2) ?_)
  intro a6 k6 e12
  have st6 : Ev.Stay (List.range' 6 7 ++ List.range' 18 10) a0 a6 := st5.trans k6 (by decide) (by decide)
  refine wp_seq (wp_seq (Rg.r7 (t := t) (A1 := A1) (c1 := c1) (la := la) (st6.1.trans hsz) ((st6.2.2 1 (by decide)).trans e1) ((k6.2.2 9 (by decide)).trans ((k5.2.2 9 (by decide)).trans ((k4.2.2 9 (by decide)).trans e9))) ht (by omega) (by omega) ?_))
  intro a7 nd k7 e13
  have st7 : Ev.Stay (List.range' 6 8 ++ List.range' 18 15) a0 a7 := st6.trans k7 (by decide) (by decide)
  refine wp_block (wp_loop_rounds (upN la.length t + 1) ?_)
  have hB7 : Below W.heap.size W (W.drewN nd) := pw_below_drewN (Below.refl _ _) nd
  have hmin : min (upN la.length t * t) la.length = la.length := by omega
  refine Rn.loopK (w := W) (b := b) (t := t) (nb := W.heap.size) (KA := upN la.length t) (wd := upN lb.length t * t) (ga := ga) (ca := cap) (B0 := w.heap.size) (c1 := c1) (c2 := c2) (A1 := A1) (A2 := A2) (la := la) (lb := lb) (gs := gs) (RR := pathF la lb (la.length + lb.length) la.length lb.length) ht rfl rfl hla hlb hc1 hc2 rfl ?hP2 (fun W' hk => Ha W' (hK1.then_ hk (fun _ h => Or.inl h))) (fun W' hk => Hb W' (hK1.then_ hk (fun _ h => Or.inl h))) (upN la.length t) lb.length a7 (W.drewN nd) (.slice none 0 0) [] (la.length + lb.length) (Nat.le_refl _) (st7.1.trans hsz) ((st7.2.2 1 (by decide)).trans e1) ((st7.2.2 2 (by decide)).trans e2) ((k7.2.2 9 (by decide)).trans ((k6.2.2 9 (by decide)).trans ((k5.2.2 9 (by decide)).trans ((k4.2.2 9 (by decide)).trans e9)))) ((k7.2.2 10 (by decide)).trans ((k6.2.2 10 (by decide)).trans ((k5.2.2 10 (by decide)).trans e10))) ((k7.2.2 11 (by decide)).trans ((k6.2.2 11 (by decide)).trans e11)) ((k7.2.2 12 (by decide)).trans e12) e13 (Nat.le_refl _) (hRs.kp (Kp.below hB7)) (World.ownsRow_nil _ _ _ _) (by rw [hmin]; show 0 + _ ≤ _; omega) (Kept.of_below hB7 _) (hT1.below hB7) (by rw [hmin]; exact Nat.le_refl _) (by rw [hmin]; rfl) ?_
  case hP2 => exact fun c a a' w hd h => hP c a a' w hd h
  intro a8 W8 v8 k8 e11' ho8 hK8 hT8 hB8
  show Code.wp _ _ _ _ _
  have hR8 : Kd.R k49 49 W8 W.heap.size (fun k_ => some k_ = v8.ownBlock) v8 (pairsP (pathF la lb (la.length + lb.length) la.length lb.length)) := by
    refine ⟨fun k hk => hk.symm, flatP (pathF la lb (la.length + lb.length) la.length lb.length), ?_, pairs_reps _⟩
    rw [show (pairsP (pathF la lb (la.length + lb.length) la.length lb.length)).length = (pathF la lb (la.length + lb.length) la.length lb.length).length by simp [pairsP]]
    exact ho8
  refine wp_seq (Rg.r20 (k8.1.trans (st7.1.trans hsz)) e11' (api_Pair.calls kr _ v8 _ lr W W8 (hB7.trans hB8) hR8 hrev) ?_)
  rintro a9 W9 k9 ⟨hR9, hB9, hK9⟩
  show Code.wp _ _ _ _ _
  have st8 : Ev.Stay (List.range' 6 12 ++ List.range' 18 98) a0 a8 := st7.trans k8 (by decide) (by decide)
  have st9 : Ev.Stay (List.range' 6 12 ++ List.range' 18 100) a0 a9 := st8.trans k9 (by decide) (by decide)
  refine wp_seq (Rg.r21 (t := t) (st9.1.trans hsz) ((k9.2.2 11 (by decide)).trans e11') ((st9.2.2 1 (by decide)).trans e1) ((st9.2.2 2 (by decide)).trans e2) ((k9.2.2 9 (by decide)).trans ((k8.2.2 9 (by decide)).trans ((k7.2.2 9 (by decide)).trans ((k6.2.2 9 (by decide)).trans ((k5.2.2 9 (by decide)).trans ((k4.2.2 9 (by decide)).trans e9)))))) ht (by omega) (by omega) (by omega) ?_)
  intro a10 n2 k10 f6 f7 f8
  have hkp9 : Kp W8 W9 := Kp.of_row ho8 hK9
  refine wp_ret ⟨k10.2.1.trans (st9.2.1.trans hd0), _, Rn.res f6 f7 f8, ?_⟩
  rw [← hR]
  have b9 : Below W.heap.size W9 (W9.drewN n2) := pw_below_drewN (Below.refl _ _) n2
  refine ⟨v8, rfl, Kd.R_mono (Kd.R_lower (Kd.R_below hR9 (pw_below_drewN (Below.refl _ _) n2)) hK1.1) (fun _ _ => trivial), (hT8.kp hkp9).below (pw_below_drewN (Below.refl _ _) n2), ?_, ?_⟩
  · exact (hK1.then_ (Kept.of_below hB9 (fun _ => False)) (fun _ h => h.elim)).drewN n2
  · exact pw_below_drewN (hB1.trans (hB9.mono (by have := hK1.1; omega))) n2
end Go.Proofs.Ytpdjdffimighkaa.Tile
