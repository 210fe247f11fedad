/- tattingref12.Look and Size; TileLooks: the walk. -/
import Derived.BigFrame
import Derived.Test.YtfldkfccdjdofaaHTr
namespace Go.Proofs.Ytfldkfccdjdofaa.Tile
open Go.RowKit Go.Proofs.YtfldkfccdjdofaaW.PrintWords Go.Proofs.YtfldkfccdjdofaaW.PrintLast Go.Proofs.YtfldkfccdjdofaaW.PrintMore
set_option linter.unusedVariables false
set_option linter.unusedSimpArgs false
theorem Ev.pvG {ops : Array Oper} {a : Act} {o : Oper} {W W' : World} {Q : Exit → Act → World → Prop} {P : Program} {rest : List Oper} {N : Tmp} {v : Value} (hr : (execOp a.eval o).run P W = .ok (.value v) W') (hg : Region.wanted o (yielded ops a.tmps) = true) (hd : o.dst = some N) (h : wpList P ops Q rest (a.put (some N) v) W') : wpList P ops Q (o :: rest) a W :=
  BigFrame.wpList_want hg fun K hK => Ev.made hd hr (hK _ _ h)
theorem pow_t {t : Nat} (ht : 1 ≤ t ∧ t ≤ 3) : IntKind.i64.wrap ((2 : Int) ^ t) = 2 ^ t := by
  have e : t = 1 ∨ t = 2 ∨ t = 3 := by omega
  rcases e with rfl | rfl | rfl <;> decide
set_option maxHeartbeats 2000000 in
theorem Rg.x8 {id : Nat} {Q : Exit → Act → World → Prop} {a : Act} {W : World} {go t k : Nat} {gs : Nat → Nat} {x d e y : Int} {G : Nat → Nat → Int}
    (hsz : a.tmps.size = 104) (hP : ∀ c a a' w, a'.defers = a.defers → Q (.panic c) a w → Q (.panic c) a' w)  (h0 : a.eval (.tmp 0) = .int .i64 (t : Int)) (h11 : a.eval (.tmp 11) = .slice (some ⟨go, 0, none⟩) (t + 1) (t + 1)) (h12 : a.eval (.tmp 12) = .int .i64 (x)) (h14 : a.eval (.tmp 14) = .int .i64 ((k + 1 : Nat) : Int)) (hG : Mx W.drew go (t + 1) gs G) (ht : t ≤ 3) (hk : k < t) (hd : IntKind.i64.wrap (G (t) (k + 1) - G (t) (k)) = d) (he : IntKind.i64.wrap (d * 2 ^ k) = e) (hy : IntKind.i64.wrap (x + e) = y)
    (hQ : ∀ a', Ev.Stay [12, 58, 59, 60, 61, 62, 63, 64, 65, 66, 67, 68, 69, 70, 71, 72, 73, 74, 75, 76, 77, 78, 79] a a' → a'.eval (.tmp 12) = .int .i64 y → Q .normal a' W.drew) : (Code.region id (Rf.ops 13 8) true).wp Try.prog Q a W := by
  have hops : Rf.ops 13 8 = List.toArray [_, _, _, _, _, _, _, _, _, _, _, _, _, _, _, _, _, _, _, _, _, _, _] := rfl
  refine start_ (S := fun w_ => Mx w_ go (t + 1) gs G) (ds := []) #[false, false, false, false, false, false, false, false, false, false, false, false, false, false, false, false, false, false, false, false, false, false, false] (by kernel_rfl) (n := 23) rfl rfl ?S0 (fun hHeld => ?_)
  case S0 => exact hG
  have k0 : Ev.Stay [12, 58, 59, 60, 61, 62, 63, 64, 65, 66, 67, 68, 69, 70, 71, 72, 73, 74, 75, 76, 77, 78, 79] a a := Ev.Stay.refl [12, 58, 59, 60, 61, 62, 63, 64, 65, 66, 67, 68, 69, 70, 71, 72, 73, 74, 75, 76, 77, 78, 79] a
  refine pure_ (i := 0) (N := some 58) (v := .int .i64 (x)) #[true, false, false, false, false, false, false, false, false, false, false, false, false, false, false, false, false, false, false, false, false, false, false] (Rg.of hops Rg.at0) rfl (by kernel_rfl) (fun c _ _ h => hP c _ _ _ (by rfl) h) (Or.inl ⟨Ev.wanted rfl, fun w_ => ?_⟩) rfl ?_
  · unfold execOp
    generalize a.eval = ev at *
    go_simp
  obtain ⟨a1, qa1⟩ : ∃ z_, z_ = a.put (some 58) (.int .i64 (x)) := ⟨_, rfl⟩
  have k1 : Ev.Stay [12, 58, 59, 60, 61, 62, 63, 64, 65, 66, 67, 68, 69, 70, 71, 72, 73, 74, 75, 76, 77, 78, 79] a a1 := by rw [qa1]; exact k0.put (by decide) _
  have e1_0 := Ev.oth qa1 (by decide) h0
  have e1_11 := Ev.oth qa1 (by decide) h11
  have e1_12 := Ev.oth qa1 (by decide) h12
  have e1_14 := Ev.oth qa1 (by decide) h14
  have e1_58 := Ev.sam qa1 (by rw [k0.1, hsz]; decide)
  rw [← qa1]
  clear qa1 
  refine pure_ (i := 1) (N := some 59) (v := .slice (some ⟨go, 0, none⟩) (t + 1) (t + 1)) #[true, true, false, false, false, false, false, false, false, false, false, false, false, false, false, false, false, false, false, false, false, false, false] (Rg.of hops (Rg.atS Rg.at0)) rfl (by kernel_rfl) (fun c _ _ h => hP c _ _ _ (by rfl) h) (Or.inl ⟨Ev.wanted rfl, fun w_ => ?_⟩) rfl ?_
  · unfold execOp
    generalize a1.eval = ev at *
    go_simp
  obtain ⟨a2, qa2⟩ : ∃ z_, z_ = a1.put (some 59) (.slice (some ⟨go, 0, none⟩) (t + 1) (t + 1)) := ⟨_, rfl⟩
  have k2 : Ev.Stay [12, 58, 59, 60, 61, 62, 63, 64, 65, 66, 67, 68, 69, 70, 71, 72, 73, 74, 75, 76, 77, 78, 79] a a2 := by rw [qa2]; exact k1.put (by decide) _
  have e2_0 := Ev.oth qa2 (by decide) e1_0
  have e2_11 := Ev.oth qa2 (by decide) e1_11
  have e2_12 := Ev.oth qa2 (by decide) e1_12
  have e2_14 := Ev.oth qa2 (by decide) e1_14
  have e2_58 := Ev.oth qa2 (by decide) e1_58
  have e2_59 := Ev.sam qa2 (by rw [k1.1, hsz]; decide)
  rw [← qa2]
  clear qa2 e1_0 e1_11 e1_12 e1_14 e1_58
  refine pure_ (i := 2) (N := some 60) (v := .int .i64 (t : Int)) #[true, true, true, false, false, false, false, false, false, false, false, false, false, false, false, false, false, false, false, false, false, false, false] (Rg.of hops (Rg.atS (Rg.atS Rg.at0))) rfl (by kernel_rfl) (fun c _ _ h => hP c _ _ _ (by rfl) h) (Or.inl ⟨Ev.wanted rfl, fun w_ => ?_⟩) rfl ?_
  · unfold execOp
    generalize a2.eval = ev at *
    go_simp
  obtain ⟨a3, qa3⟩ : ∃ z_, z_ = a2.put (some 60) (.int .i64 (t : Int)) := ⟨_, rfl⟩
  have k3 : Ev.Stay [12, 58, 59, 60, 61, 62, 63, 64, 65, 66, 67, 68, 69, 70, 71, 72, 73, 74, 75, 76, 77, 78, 79] a a3 := by rw [qa3]; exact k2.put (by decide) _
  have e3_0 := Ev.oth qa3 (by decide) e2_0
  have e3_11 := Ev.oth qa3 (by decide) e2_11
  have e3_12 := Ev.oth qa3 (by decide) e2_12
  have e3_14 := Ev.oth qa3 (by decide) e2_14
  have e3_58 := Ev.oth qa3 (by decide) e2_58
  have e3_59 := Ev.oth qa3 (by decide) e2_59
  have e3_60 := Ev.sam qa3 (by rw [k2.1, hsz]; decide)
  rw [← qa3]
  clear qa3 e2_0 e2_11 e2_12 e2_14 e2_58 e2_59
  refine pure_ (i := 3) (N := some 61) (v := .pointer (some ⟨go, t, none⟩)) #[true, true, true, true, false, false, false, false, false, false, false, false, false, false, false, false, false, false, false, false, false, false, false] (Rg.of hops (Rg.atS (Rg.atS (Rg.atS Rg.at0)))) rfl (by kernel_rfl) (fun c _ _ h => hP c _ _ _ (by rfl) h) (Or.inl ⟨Ev.wanted rfl, fun w_ => ?_⟩) rfl ?_
  · have k0_ : (0 : Int) ≤ (k : Int) := by omega
    have kt_ : (k : Int) < (t : Int) := by omega
    have lt_ : (k : Int) + 1 < (t : Int) + 1 := by omega
    have lk_ : (t : Int) < (t : Int) + 1 := by omega
    have lk3_ : (k : Int) < (t : Int) + 1 := by omega
    have lk0_ : (0 : Int) ≤ (t : Int) := by omega
    have lk4_ : (0 : Int) ≤ (k : Int) + 1 := by omega
    unfold execOp
    generalize a3.eval = ev at *
    go_simp
  obtain ⟨a4, qa4⟩ : ∃ z_, z_ = a3.put (some 61) (.pointer (some ⟨go, t, none⟩)) := ⟨_, rfl⟩
  have k4 : Ev.Stay [12, 58, 59, 60, 61, 62, 63, 64, 65, 66, 67, 68, 69, 70, 71, 72, 73, 74, 75, 76, 77, 78, 79] a a4 := by rw [qa4]; exact k3.put (by decide) _
  have e4_0 := Ev.oth qa4 (by decide) e3_0
  have e4_11 := Ev.oth qa4 (by decide) e3_11
  have e4_12 := Ev.oth qa4 (by decide) e3_12
  have e4_14 := Ev.oth qa4 (by decide) e3_14
  have e4_58 := Ev.oth qa4 (by decide) e3_58
  have e4_59 := Ev.oth qa4 (by decide) e3_59
  have e4_60 := Ev.oth qa4 (by decide) e3_60
  have e4_61 := Ev.sam qa4 (by rw [k3.1, hsz]; decide)
  rw [← qa4]
  clear qa4 e3_0 e3_11 e3_12 e3_14 e3_58 e3_59 e3_60
  clear e4_59
  clear e4_60
  refine take_ (i := 4) (N := some 62) (v := .slice (some ⟨gs (t), 0, none⟩) (t + 1) (t + 1)) #[true, true, true, true, true, false, false, false, false, false, false, false, false, false, false, false, false, false, false, false, false, false, false] (Rg.of hops (Rg.atS (Rg.atS (Rg.atS (Rg.atS Rg.at0))))) rfl (by kernel_rfl) (fun c _ _ h => hP c _ _ _ (by rfl) h) (Ev.loadW (Ev.wanted rfl) rfl e4_61 (fun w hw => Ev.load56 (hw.row (by omega)))) hHeld rfl ?_
  obtain ⟨a5, qa5⟩ : ∃ z_, z_ = a4.put (some 62) (.slice (some ⟨gs (t), 0, none⟩) (t + 1) (t + 1)) := ⟨_, rfl⟩
  have k5 : Ev.Stay [12, 58, 59, 60, 61, 62, 63, 64, 65, 66, 67, 68, 69, 70, 71, 72, 73, 74, 75, 76, 77, 78, 79] a a5 := by rw [qa5]; exact k4.put (by decide) _
  have e5_0 := Ev.oth qa5 (by decide) e4_0
  have e5_11 := Ev.oth qa5 (by decide) e4_11
  have e5_12 := Ev.oth qa5 (by decide) e4_12
  have e5_14 := Ev.oth qa5 (by decide) e4_14
  have e5_58 := Ev.oth qa5 (by decide) e4_58
  have e5_61 := Ev.oth qa5 (by decide) e4_61
  have e5_62 := Ev.sam qa5 (by rw [k4.1, hsz]; decide)
  rw [← qa5]
  clear qa5 e4_0 e4_11 e4_12 e4_14 e4_58 e4_61
  clear e5_61
  refine pure_ (i := 5) (N := some 63) (v := .int .i64 ((k + 1 : Nat) : Int)) #[true, true, true, true, true, true, false, false, false, false, false, false, false, false, false, false, false, false, false, false, false, false, false] (Rg.of hops (Rg.atS (Rg.atS (Rg.atS (Rg.atS (Rg.atS Rg.at0)))))) rfl (by kernel_rfl) (fun c _ _ h => hP c _ _ _ (by rfl) h) (Or.inl ⟨Ev.wanted rfl, fun w_ => ?_⟩) rfl ?_
  · unfold execOp
    generalize a5.eval = ev at *
    go_simp
  obtain ⟨a6, qa6⟩ : ∃ z_, z_ = a5.put (some 63) (.int .i64 ((k + 1 : Nat) : Int)) := ⟨_, rfl⟩
  have k6 : Ev.Stay [12, 58, 59, 60, 61, 62, 63, 64, 65, 66, 67, 68, 69, 70, 71, 72, 73, 74, 75, 76, 77, 78, 79] a a6 := by rw [qa6]; exact k5.put (by decide) _
  have e6_0 := Ev.oth qa6 (by decide) e5_0
  have e6_11 := Ev.oth qa6 (by decide) e5_11
  have e6_12 := Ev.oth qa6 (by decide) e5_12
  have e6_14 := Ev.oth qa6 (by decide) e5_14
  have e6_58 := Ev.oth qa6 (by decide) e5_58
  have e6_62 := Ev.oth qa6 (by decide) e5_62
  have e6_63 := Ev.sam qa6 (by rw [k5.1, hsz]; decide)
  rw [← qa6]
  clear qa6 e5_0 e5_11 e5_12 e5_14 e5_58 e5_62
  refine pure_ (i := 6) (N := some 64) (v := .pointer (some ⟨gs (t), k + 1, none⟩)) #[true, true, true, true, true, true, true, false, false, false, false, false, false, false, false, false, false, false, false, false, false, false, false] (Rg.of hops (Rg.atS (Rg.atS (Rg.atS (Rg.atS (Rg.atS (Rg.atS Rg.at0))))))) rfl (by kernel_rfl) (fun c _ _ h => hP c _ _ _ (by rfl) h) (Or.inl ⟨Ev.wanted rfl, fun w_ => ?_⟩) rfl ?_
  · have k0_ : (0 : Int) ≤ (k : Int) := by omega
    have kt_ : (k : Int) < (t : Int) := by omega
    have lt_ : (k : Int) + 1 < (t : Int) + 1 := by omega
    have lk_ : (t : Int) < (t : Int) + 1 := by omega
    have lk3_ : (k : Int) < (t : Int) + 1 := by omega
    have lk0_ : (0 : Int) ≤ (t : Int) := by omega
    have lk4_ : (0 : Int) ≤ (k : Int) + 1 := by omega
    unfold execOp
    generalize a6.eval = ev at *
    go_simp
  obtain ⟨a7, qa7⟩ : ∃ z_, z_ = a6.put (some 64) (.pointer (some ⟨gs (t), k + 1, none⟩)) := ⟨_, rfl⟩
  have k7 : Ev.Stay [12, 58, 59, 60, 61, 62, 63, 64, 65, 66, 67, 68, 69, 70, 71, 72, 73, 74, 75, 76, 77, 78, 79] a a7 := by rw [qa7]; exact k6.put (by decide) _
  have e7_0 := Ev.oth qa7 (by decide) e6_0
  have e7_11 := Ev.oth qa7 (by decide) e6_11
  have e7_12 := Ev.oth qa7 (by decide) e6_12
  have e7_14 := Ev.oth qa7 (by decide) e6_14
  have e7_58 := Ev.oth qa7 (by decide) e6_58
  have e7_62 := Ev.oth qa7 (by decide) e6_62
  have e7_63 := Ev.oth qa7 (by decide) e6_63
  have e7_64 := Ev.sam qa7 (by rw [k6.1, hsz]; decide)
  rw [← qa7]
  clear qa7 e6_0 e6_11 e6_12 e6_14 e6_58 e6_62 e6_63
  clear e7_62
  clear e7_63
  refine take_ (i := 7) (N := some 65) (v := .int .i64 (G (t) (k + 1))) #[true, true, true, true, true, true, true, true, false, false, false, false, false, false, false, false, false, false, false, false, false, false, false] (Rg.of hops (Rg.atS (Rg.atS (Rg.atS (Rg.atS (Rg.atS (Rg.atS (Rg.atS Rg.at0)))))))) rfl (by kernel_rfl) (fun c _ _ h => hP c _ _ _ (by rfl) h) (Ev.loadW (Ev.wanted rfl) rfl e7_64 (fun w hw => Ev.load3 (hw.el (by omega) (by omega)))) hHeld rfl ?_
  obtain ⟨a8, qa8⟩ : ∃ z_, z_ = a7.put (some 65) (.int .i64 (G (t) (k + 1))) := ⟨_, rfl⟩
  have k8 : Ev.Stay [12, 58, 59, 60, 61, 62, 63, 64, 65, 66, 67, 68, 69, 70, 71, 72, 73, 74, 75, 76, 77, 78, 79] a a8 := by rw [qa8]; exact k7.put (by decide) _
  have e8_0 := Ev.oth qa8 (by decide) e7_0
  have e8_11 := Ev.oth qa8 (by decide) e7_11
  have e8_12 := Ev.oth qa8 (by decide) e7_12
  have e8_14 := Ev.oth qa8 (by decide) e7_14
  have e8_58 := Ev.oth qa8 (by decide) e7_58
  have e8_64 := Ev.oth qa8 (by decide) e7_64
  have e8_65 := Ev.sam qa8 (by rw [k7.1, hsz]; decide)
  rw [← qa8]
  clear qa8 e7_0 e7_11 e7_12 e7_14 e7_58 e7_64
  clear e8_64
  refine pure_ (i := 8) (N := some 66) (v := .slice (some ⟨go, 0, none⟩) (t + 1) (t + 1)) #[true, true, true, true, true, true, true, true, true, false, false, false, false, false, false, false, false, false, false, false, false, false, false] (Rg.of hops (Rg.atS (Rg.atS (Rg.atS (Rg.atS (Rg.atS (Rg.atS (Rg.atS (Rg.atS Rg.at0))))))))) rfl (by kernel_rfl) (fun c _ _ h => hP c _ _ _ (by rfl) h) (Or.inl ⟨Ev.wanted rfl, fun w_ => ?_⟩) rfl ?_
  · unfold execOp
    generalize a8.eval = ev at *
    go_simp
  obtain ⟨a9, qa9⟩ : ∃ z_, z_ = a8.put (some 66) (.slice (some ⟨go, 0, none⟩) (t + 1) (t + 1)) := ⟨_, rfl⟩
  have k9 : Ev.Stay [12, 58, 59, 60, 61, 62, 63, 64, 65, 66, 67, 68, 69, 70, 71, 72, 73, 74, 75, 76, 77, 78, 79] a a9 := by rw [qa9]; exact k8.put (by decide) _
  have e9_0 := Ev.oth qa9 (by decide) e8_0
  have e9_11 := Ev.oth qa9 (by decide) e8_11
  have e9_12 := Ev.oth qa9 (by decide) e8_12
  have e9_14 := Ev.oth qa9 (by decide) e8_14
  have e9_58 := Ev.oth qa9 (by decide) e8_58
  have e9_65 := Ev.oth qa9 (by decide) e8_65
  have e9_66 := Ev.sam qa9 (by rw [k8.1, hsz]; decide)
  rw [← qa9]
  clear qa9 e8_0 e8_11 e8_12 e8_14 e8_58 e8_65
  refine pure_ (i := 9) (N := some 67) (v := .int .i64 (t : Int)) #[true, true, true, true, true, true, true, true, true, true, false, false, false, false, false, false, false, false, false, false, false, false, false] (Rg.of hops (Rg.atS (Rg.atS (Rg.atS (Rg.atS (Rg.atS (Rg.atS (Rg.atS (Rg.atS (Rg.atS Rg.at0)))))))))) rfl (by kernel_rfl) (fun c _ _ h => hP c _ _ _ (by rfl) h) (Or.inl ⟨Ev.wanted rfl, fun w_ => ?_⟩) rfl ?_
  · unfold execOp
    generalize a9.eval = ev at *
    go_simp
  obtain ⟨a10, qa10⟩ : ∃ z_, z_ = a9.put (some 67) (.int .i64 (t : Int)) := ⟨_, rfl⟩
  have k10 : Ev.Stay [12, 58, 59, 60, 61, 62, 63, 64, 65, 66, 67, 68, 69, 70, 71, 72, 73, 74, 75, 76, 77, 78, 79] a a10 := by rw [qa10]; exact k9.put (by decide) _
  have e10_0 := Ev.oth qa10 (by decide) e9_0
  have e10_11 := Ev.oth qa10 (by decide) e9_11
  have e10_12 := Ev.oth qa10 (by decide) e9_12
  have e10_14 := Ev.oth qa10 (by decide) e9_14
  have e10_58 := Ev.oth qa10 (by decide) e9_58
  have e10_65 := Ev.oth qa10 (by decide) e9_65
  have e10_66 := Ev.oth qa10 (by decide) e9_66
  have e10_67 := Ev.sam qa10 (by rw [k9.1, hsz]; decide)
  rw [← qa10]
  clear qa10 e9_0 e9_11 e9_12 e9_14 e9_58 e9_65 e9_66
  refine pure_ (i := 10) (N := some 68) (v := .pointer (some ⟨go, t, none⟩)) #[true, true, true, true, true, true, true, true, true, true, true, false, false, false, false, false, false, false, false, false, false, false, false] (Rg.of hops (Rg.atS (Rg.atS (Rg.atS (Rg.atS (Rg.atS (Rg.atS (Rg.atS (Rg.atS (Rg.atS (Rg.atS Rg.at0))))))))))) rfl (by kernel_rfl) (fun c _ _ h => hP c _ _ _ (by rfl) h) (Or.inl ⟨Ev.wanted rfl, fun w_ => ?_⟩) rfl ?_
  · have k0_ : (0 : Int) ≤ (k : Int) := by omega
    have kt_ : (k : Int) < (t : Int) := by omega
    have lt_ : (k : Int) + 1 < (t : Int) + 1 := by omega
    have lk_ : (t : Int) < (t : Int) + 1 := by omega
    have lk3_ : (k : Int) < (t : Int) + 1 := by omega
    have lk0_ : (0 : Int) ≤ (t : Int) := by omega
    have lk4_ : (0 : Int) ≤ (k : Int) + 1 := by omega
    unfold execOp
    generalize a10.eval = ev at *
    go_simp
  obtain ⟨a11, qa11⟩ : ∃ z_, z_ = a10.put (some 68) (.pointer (some ⟨go, t, none⟩)) := ⟨_, rfl⟩
  have k11 : Ev.Stay [12, 58, 59, 60, 61, 62, 63, 64, 65, 66, 67, 68, 69, 70, 71, 72, 73, 74, 75, 76, 77, 78, 79] a a11 := by rw [qa11]; exact k10.put (by decide) _
  have e11_0 := Ev.oth qa11 (by decide) e10_0
  have e11_11 := Ev.oth qa11 (by decide) e10_11
  have e11_12 := Ev.oth qa11 (by decide) e10_12
  have e11_14 := Ev.oth qa11 (by decide) e10_14
  have e11_58 := Ev.oth qa11 (by decide) e10_58
  have e11_65 := Ev.oth qa11 (by decide) e10_65
  have e11_66 := Ev.oth qa11 (by decide) e10_66
  have e11_67 := Ev.oth qa11 (by decide) e10_67
  have e11_68 := Ev.sam qa11 (by rw [k10.1, hsz]; decide)
  rw [← qa11]
  clear qa11 e10_0 e10_11 e10_12 e10_14 e10_58 e10_65 e10_66 e10_67
  clear e11_66
  clear e11_67
  refine take_ (i := 11) (N := some 69) (v := .slice (some ⟨gs (t), 0, none⟩) (t + 1) (t + 1)) #[true, true, true, true, true, true, true, true, true, true, true, true, false, false, false, false, false, false, false, false, false, false, false] (Rg.of hops (Rg.atS (Rg.atS (Rg.atS (Rg.atS (Rg.atS (Rg.atS (Rg.atS (Rg.atS (Rg.atS (Rg.atS (Rg.atS Rg.at0)))))))))))) rfl (by kernel_rfl) (fun c _ _ h => hP c _ _ _ (by rfl) h) (Ev.loadW (Ev.wanted rfl) rfl e11_68 (fun w hw => Ev.load56 (hw.row (by omega)))) hHeld rfl ?_
  obtain ⟨a12, qa12⟩ : ∃ z_, z_ = a11.put (some 69) (.slice (some ⟨gs (t), 0, none⟩) (t + 1) (t + 1)) := ⟨_, rfl⟩
  have k12 : Ev.Stay [12, 58, 59, 60, 61, 62, 63, 64, 65, 66, 67, 68, 69, 70, 71, 72, 73, 74, 75, 76, 77, 78, 79] a a12 := by rw [qa12]; exact k11.put (by decide) _
  have e12_0 := Ev.oth qa12 (by decide) e11_0
  have e12_11 := Ev.oth qa12 (by decide) e11_11
  have e12_12 := Ev.oth qa12 (by decide) e11_12
  have e12_14 := Ev.oth qa12 (by decide) e11_14
  have e12_58 := Ev.oth qa12 (by decide) e11_58
  have e12_65 := Ev.oth qa12 (by decide) e11_65
  have e12_68 := Ev.oth qa12 (by decide) e11_68
  have e12_69 := Ev.sam qa12 (by rw [k11.1, hsz]; decide)
  rw [← qa12]
  clear qa12 e11_0 e11_11 e11_12 e11_14 e11_58 e11_65 e11_68
  clear e12_68
  refine pure_ (i := 12) (N := some 70) (v := .int .i64 ((k + 1 : Nat) : Int)) #[true, true, true, true, true, true, true, true, true, true, true, true, true, false, false, false, false, false, false, false, false, false, false] (Rg.of hops (Rg.atS (Rg.atS (Rg.atS (Rg.atS (Rg.atS (Rg.atS (Rg.atS (Rg.atS (Rg.atS (Rg.atS (Rg.atS (Rg.atS Rg.at0))))))))))))) rfl (by kernel_rfl) (fun c _ _ h => hP c _ _ _ (by rfl) h) (Or.inl ⟨Ev.wanted rfl, fun w_ => ?_⟩) rfl ?_
  · unfold execOp
    generalize a12.eval = ev at *
    go_simp
  obtain ⟨a13, qa13⟩ : ∃ z_, z_ = a12.put (some 70) (.int .i64 ((k + 1 : Nat) : Int)) := ⟨_, rfl⟩
  have k13 : Ev.Stay [12, 58, 59, 60, 61, 62, 63, 64, 65, 66, 67, 68, 69, 70, 71, 72, 73, 74, 75, 76, 77, 78, 79] a a13 := by rw [qa13]; exact k12.put (by decide) _
  have e13_0 := Ev.oth qa13 (by decide) e12_0
  have e13_11 := Ev.oth qa13 (by decide) e12_11
  have e13_12 := Ev.oth qa13 (by decide) e12_12
  have e13_14 := Ev.oth qa13 (by decide) e12_14
  have e13_58 := Ev.oth qa13 (by decide) e12_58
  have e13_65 := Ev.oth qa13 (by decide) e12_65
  have e13_69 := Ev.oth qa13 (by decide) e12_69
  have e13_70 := Ev.sam qa13 (by rw [k12.1, hsz]; decide)
  rw [← qa13]
  clear qa13 e12_0 e12_11 e12_12 e12_14 e12_58 e12_65 e12_69
  refine pure_ (i := 13) (N := some 71) (v := .int .i64 (k : Int)) #[true, true, true, true, true, true, true, true, true, true, true, true, true, true, false, false, false, false, false, false, false, false, false] (Rg.of hops (Rg.atS (Rg.atS (Rg.atS (Rg.atS (Rg.atS (Rg.atS (Rg.atS (Rg.atS (Rg.atS (Rg.atS (Rg.atS (Rg.atS (Rg.atS Rg.at0)))))))))))))) rfl (by kernel_rfl) (fun c _ _ h => hP c _ _ _ (by rfl) h) (Or.inl ⟨Ev.wanted rfl, fun w_ => ?_⟩) rfl ?_
  · have ec0 : a13.eval (.const (.int .i64 (1))) = .int .i64 (1) := rfl
    have d_ : (k : Int) + 1 - 1 = (k : Int) := by omega
    have d2_ : IntKind.i64.wrap (k : Int) = (k : Int) := wr (by omega) (by omega)
    unfold execOp
    generalize a13.eval = ev at *
    (go_simp; try (exact wr (by omega) (by omega)))
  obtain ⟨a14, qa14⟩ : ∃ z_, z_ = a13.put (some 71) (.int .i64 (k : Int)) := ⟨_, rfl⟩
  have k14 : Ev.Stay [12, 58, 59, 60, 61, 62, 63, 64, 65, 66, 67, 68, 69, 70, 71, 72, 73, 74, 75, 76, 77, 78, 79] a a14 := by rw [qa14]; exact k13.put (by decide) _
  have e14_0 := Ev.oth qa14 (by decide) e13_0
  have e14_11 := Ev.oth qa14 (by decide) e13_11
  have e14_12 := Ev.oth qa14 (by decide) e13_12
  have e14_14 := Ev.oth qa14 (by decide) e13_14
  have e14_58 := Ev.oth qa14 (by decide) e13_58
  have e14_65 := Ev.oth qa14 (by decide) e13_65
  have e14_69 := Ev.oth qa14 (by decide) e13_69
  have e14_70 := Ev.oth qa14 (by decide) e13_70
  have e14_71 := Ev.sam qa14 (by rw [k13.1, hsz]; decide)
  rw [← qa14]
  clear qa14 e13_0 e13_11 e13_12 e13_14 e13_58 e13_65 e13_69 e13_70
  clear e14_70
  refine pure_ (i := 14) (N := some 72) (v := .pointer (some ⟨gs (t), k, none⟩)) #[true, true, true, true, true, true, true, true, true, true, true, true, true, true, true, false, false, false, false, false, false, false, false] (Rg.of hops (Rg.atS (Rg.atS (Rg.atS (Rg.atS (Rg.atS (Rg.atS (Rg.atS (Rg.atS (Rg.atS (Rg.atS (Rg.atS (Rg.atS (Rg.atS (Rg.atS Rg.at0))))))))))))))) rfl (by kernel_rfl) (fun c _ _ h => hP c _ _ _ (by rfl) h) (Or.inl ⟨Ev.wanted rfl, fun w_ => ?_⟩) rfl ?_
  · have k0_ : (0 : Int) ≤ (k : Int) := by omega
    have kt_ : (k : Int) < (t : Int) := by omega
    have lt_ : (k : Int) + 1 < (t : Int) + 1 := by omega
    have lk_ : (t : Int) < (t : Int) + 1 := by omega
    have lk3_ : (k : Int) < (t : Int) + 1 := by omega
    have lk0_ : (0 : Int) ≤ (t : Int) := by omega
    have lk4_ : (0 : Int) ≤ (k : Int) + 1 := by omega
    unfold execOp
    generalize a14.eval = ev at *
    go_simp
  obtain ⟨a15, qa15⟩ : ∃ z_, z_ = a14.put (some 72) (.pointer (some ⟨gs (t), k, none⟩)) := ⟨_, rfl⟩
  have k15 : Ev.Stay [12, 58, 59, 60, 61, 62, 63, 64, 65, 66, 67, 68, 69, 70, 71, 72, 73, 74, 75, 76, 77, 78, 79] a a15 := by rw [qa15]; exact k14.put (by decide) _
  have e15_0 := Ev.oth qa15 (by decide) e14_0
  have e15_11 := Ev.oth qa15 (by decide) e14_11
  have e15_12 := Ev.oth qa15 (by decide) e14_12
  have e15_14 := Ev.oth qa15 (by decide) e14_14
  have e15_58 := Ev.oth qa15 (by decide) e14_58
  have e15_65 := Ev.oth qa15 (by decide) e14_65
  have e15_69 := Ev.oth qa15 (by decide) e14_69
  have e15_71 := Ev.oth qa15 (by decide) e14_71
  have e15_72 := Ev.sam qa15 (by rw [k14.1, hsz]; decide)
  rw [← qa15]
  clear qa15 e14_0 e14_11 e14_12 e14_14 e14_58 e14_65 e14_69 e14_71
  clear e15_69
  clear e15_71
  refine take_ (i := 15) (N := some 73) (v := .int .i64 (G (t) (k))) #[true, true, true, true, true, true, true, true, true, true, true, true, true, true, true, true, false, false, false, false, false, false, false] (Rg.of hops (Rg.atS (Rg.atS (Rg.atS (Rg.atS (Rg.atS (Rg.atS (Rg.atS (Rg.atS (Rg.atS (Rg.atS (Rg.atS (Rg.atS (Rg.atS (Rg.atS (Rg.atS Rg.at0)))))))))))))))) rfl (by kernel_rfl) (fun c _ _ h => hP c _ _ _ (by rfl) h) (Ev.loadW (Ev.wanted rfl) rfl e15_72 (fun w hw => Ev.load3 (hw.el (by omega) (by omega)))) hHeld rfl ?_
  obtain ⟨a16, qa16⟩ : ∃ z_, z_ = a15.put (some 73) (.int .i64 (G (t) (k))) := ⟨_, rfl⟩
  have k16 : Ev.Stay [12, 58, 59, 60, 61, 62, 63, 64, 65, 66, 67, 68, 69, 70, 71, 72, 73, 74, 75, 76, 77, 78, 79] a a16 := by rw [qa16]; exact k15.put (by decide) _
  have e16_0 := Ev.oth qa16 (by decide) e15_0
  have e16_11 := Ev.oth qa16 (by decide) e15_11
  have e16_12 := Ev.oth qa16 (by decide) e15_12
  have e16_14 := Ev.oth qa16 (by decide) e15_14
  have e16_58 := Ev.oth qa16 (by decide) e15_58
  have e16_65 := Ev.oth qa16 (by decide) e15_65
  have e16_72 := Ev.oth qa16 (by decide) e15_72
  have e16_73 := Ev.sam qa16 (by rw [k15.1, hsz]; decide)
  rw [← qa16]
  clear qa16 e15_0 e15_11 e15_12 e15_14 e15_58 e15_65 e15_72
  clear e16_72
  refine pure_ (i := 16) (N := some 74) (v := .int .i64 (d)) #[true, true, true, true, true, true, true, true, true, true, true, true, true, true, true, true, true, false, false, false, false, false, false] (Rg.of hops (Rg.atS (Rg.atS (Rg.atS (Rg.atS (Rg.atS (Rg.atS (Rg.atS (Rg.atS (Rg.atS (Rg.atS (Rg.atS (Rg.atS (Rg.atS (Rg.atS (Rg.atS (Rg.atS Rg.at0))))))))))))))))) rfl (by kernel_rfl) (fun c _ _ h => hP c _ _ _ (by rfl) h) (Or.inl ⟨Ev.wanted rfl, fun w_ => ?_⟩) rfl ?_
  · have d1_ := hd
    unfold execOp
    generalize a16.eval = ev at *
    go_simp
  obtain ⟨a17, qa17⟩ : ∃ z_, z_ = a16.put (some 74) (.int .i64 (d)) := ⟨_, rfl⟩
  have k17 : Ev.Stay [12, 58, 59, 60, 61, 62, 63, 64, 65, 66, 67, 68, 69, 70, 71, 72, 73, 74, 75, 76, 77, 78, 79] a a17 := by rw [qa17]; exact k16.put (by decide) _
  have e17_0 := Ev.oth qa17 (by decide) e16_0
  have e17_11 := Ev.oth qa17 (by decide) e16_11
  have e17_12 := Ev.oth qa17 (by decide) e16_12
  have e17_14 := Ev.oth qa17 (by decide) e16_14
  have e17_58 := Ev.oth qa17 (by decide) e16_58
  have e17_65 := Ev.oth qa17 (by decide) e16_65
  have e17_73 := Ev.oth qa17 (by decide) e16_73
  have e17_74 := Ev.sam qa17 (by rw [k16.1, hsz]; decide)
  rw [← qa17]
  clear qa17 e16_0 e16_11 e16_12 e16_14 e16_58 e16_65 e16_73
  clear e17_65
  clear e17_73
  refine pure_ (i := 17) (N := some 75) (v := .int .i64 ((k + 1 : Nat) : Int)) #[true, true, true, true, true, true, true, true, true, true, true, true, true, true, true, true, true, true, false, false, false, false, false] (Rg.of hops (Rg.atS (Rg.atS (Rg.atS (Rg.atS (Rg.atS (Rg.atS (Rg.atS (Rg.atS (Rg.atS (Rg.atS (Rg.atS (Rg.atS (Rg.atS (Rg.atS (Rg.atS (Rg.atS (Rg.atS Rg.at0)))))))))))))))))) rfl (by kernel_rfl) (fun c _ _ h => hP c _ _ _ (by rfl) h) (Or.inl ⟨Ev.wanted rfl, fun w_ => ?_⟩) rfl ?_
  · unfold execOp
    generalize a17.eval = ev at *
    go_simp
  obtain ⟨a18, qa18⟩ : ∃ z_, z_ = a17.put (some 75) (.int .i64 ((k + 1 : Nat) : Int)) := ⟨_, rfl⟩
  have k18 : Ev.Stay [12, 58, 59, 60, 61, 62, 63, 64, 65, 66, 67, 68, 69, 70, 71, 72, 73, 74, 75, 76, 77, 78, 79] a a18 := by rw [qa18]; exact k17.put (by decide) _
  have e18_0 := Ev.oth qa18 (by decide) e17_0
  have e18_11 := Ev.oth qa18 (by decide) e17_11
  have e18_12 := Ev.oth qa18 (by decide) e17_12
  have e18_14 := Ev.oth qa18 (by decide) e17_14
  have e18_58 := Ev.oth qa18 (by decide) e17_58
  have e18_74 := Ev.oth qa18 (by decide) e17_74
  have e18_75 := Ev.sam qa18 (by rw [k17.1, hsz]; decide)
  rw [← qa18]
  clear qa18 e17_0 e17_11 e17_12 e17_14 e17_58 e17_74
  refine pure_ (i := 18) (N := some 76) (v := .int .i64 (k : Int)) #[true, true, true, true, true, true, true, true, true, true, true, true, true, true, true, true, true, true, true, false, false, false, false] (Rg.of hops (Rg.atS (Rg.atS (Rg.atS (Rg.atS (Rg.atS (Rg.atS (Rg.atS (Rg.atS (Rg.atS (Rg.atS (Rg.atS (Rg.atS (Rg.atS (Rg.atS (Rg.atS (Rg.atS (Rg.atS (Rg.atS Rg.at0))))))))))))))))))) rfl (by kernel_rfl) (fun c _ _ h => hP c _ _ _ (by rfl) h) (Or.inl ⟨Ev.wanted rfl, fun w_ => ?_⟩) rfl ?_
  · have ec0 : a18.eval (.const (.int .i64 (1))) = .int .i64 (1) := rfl
    have d_ : (k : Int) + 1 - 1 = (k : Int) := by omega
    have d2_ : IntKind.i64.wrap (k : Int) = (k : Int) := wr (by omega) (by omega)
    unfold execOp
    generalize a18.eval = ev at *
    (go_simp; try (exact wr (by omega) (by omega)))
  obtain ⟨a19, qa19⟩ : ∃ z_, z_ = a18.put (some 76) (.int .i64 (k : Int)) := ⟨_, rfl⟩
  have k19 : Ev.Stay [12, 58, 59, 60, 61, 62, 63, 64, 65, 66, 67, 68, 69, 70, 71, 72, 73, 74, 75, 76, 77, 78, 79] a a19 := by rw [qa19]; exact k18.put (by decide) _
  have e19_0 := Ev.oth qa19 (by decide) e18_0
  have e19_11 := Ev.oth qa19 (by decide) e18_11
  have e19_12 := Ev.oth qa19 (by decide) e18_12
  have e19_14 := Ev.oth qa19 (by decide) e18_14
  have e19_58 := Ev.oth qa19 (by decide) e18_58
  have e19_74 := Ev.oth qa19 (by decide) e18_74
  have e19_75 := Ev.oth qa19 (by decide) e18_75
  have e19_76 := Ev.sam qa19 (by rw [k18.1, hsz]; decide)
  rw [← qa19]
  clear qa19 e18_0 e18_11 e18_12 e18_14 e18_58 e18_74 e18_75
  clear e19_75
  refine pure_ (i := 19) (N := some 77) (v := .int .u64 (k : Int)) #[true, true, true, true, true, true, true, true, true, true, true, true, true, true, true, true, true, true, true, true, false, false, false] (Rg.of hops (Rg.atS (Rg.atS (Rg.atS (Rg.atS (Rg.atS (Rg.atS (Rg.atS (Rg.atS (Rg.atS (Rg.atS (Rg.atS (Rg.atS (Rg.atS (Rg.atS (Rg.atS (Rg.atS (Rg.atS (Rg.atS (Rg.atS Rg.at0)))))))))))))))))))) rfl (by kernel_rfl) (fun c _ _ h => hP c _ _ _ (by rfl) h) (Or.inl ⟨Ev.wanted rfl, fun w_ => ?_⟩) rfl ?_
  · have u_ : IntKind.u64.wrap (k : Int) = (k : Int) := wu (by omega) (by omega)
    unfold execOp
    generalize a19.eval = ev at *
    go_simp
  obtain ⟨a20, qa20⟩ : ∃ z_, z_ = a19.put (some 77) (.int .u64 (k : Int)) := ⟨_, rfl⟩
  have k20 : Ev.Stay [12, 58, 59, 60, 61, 62, 63, 64, 65, 66, 67, 68, 69, 70, 71, 72, 73, 74, 75, 76, 77, 78, 79] a a20 := by rw [qa20]; exact k19.put (by decide) _
  have e20_0 := Ev.oth qa20 (by decide) e19_0
  have e20_11 := Ev.oth qa20 (by decide) e19_11
  have e20_12 := Ev.oth qa20 (by decide) e19_12
  have e20_14 := Ev.oth qa20 (by decide) e19_14
  have e20_58 := Ev.oth qa20 (by decide) e19_58
  have e20_74 := Ev.oth qa20 (by decide) e19_74
  have e20_76 := Ev.oth qa20 (by decide) e19_76
  have e20_77 := Ev.sam qa20 (by rw [k19.1, hsz]; decide)
  rw [← qa20]
  clear qa20 e19_0 e19_11 e19_12 e19_14 e19_58 e19_74 e19_76
  clear e20_76
  refine pure_ (i := 20) (N := some 78) (v := .int .i64 (e)) #[true, true, true, true, true, true, true, true, true, true, true, true, true, true, true, true, true, true, true, true, true, false, false] (Rg.of hops (Rg.atS (Rg.atS (Rg.atS (Rg.atS (Rg.atS (Rg.atS (Rg.atS (Rg.atS (Rg.atS (Rg.atS (Rg.atS (Rg.atS (Rg.atS (Rg.atS (Rg.atS (Rg.atS (Rg.atS (Rg.atS (Rg.atS (Rg.atS Rg.at0))))))))))))))))))))) rfl (by kernel_rfl) (fun c _ _ h => hP c _ _ _ (by rfl) h) (Or.inl ⟨Ev.wanted rfl, fun w_ => ?_⟩) rfl ?_
  · have l0_ : (0 : Int) ≤ (k : Int) := by omega
    have mn_ : min k 64 = k := by omega
    have e1_ := he
    unfold execOp
    generalize a20.eval = ev at *
    go_simp
  obtain ⟨a21, qa21⟩ : ∃ z_, z_ = a20.put (some 78) (.int .i64 (e)) := ⟨_, rfl⟩
  have k21 : Ev.Stay [12, 58, 59, 60, 61, 62, 63, 64, 65, 66, 67, 68, 69, 70, 71, 72, 73, 74, 75, 76, 77, 78, 79] a a21 := by rw [qa21]; exact k20.put (by decide) _
  have e21_0 := Ev.oth qa21 (by decide) e20_0
  have e21_11 := Ev.oth qa21 (by decide) e20_11
  have e21_12 := Ev.oth qa21 (by decide) e20_12
  have e21_14 := Ev.oth qa21 (by decide) e20_14
  have e21_58 := Ev.oth qa21 (by decide) e20_58
  have e21_74 := Ev.oth qa21 (by decide) e20_74
  have e21_77 := Ev.oth qa21 (by decide) e20_77
  have e21_78 := Ev.sam qa21 (by rw [k20.1, hsz]; decide)
  rw [← qa21]
  clear qa21 e20_0 e20_11 e20_12 e20_14 e20_58 e20_74 e20_77
  clear e21_74
  clear e21_77
  refine pure_ (i := 21) (N := some 79) (v := .int .i64 (y)) #[true, true, true, true, true, true, true, true, true, true, true, true, true, true, true, true, true, true, true, true, true, true, false] (Rg.of hops (Rg.atS (Rg.atS (Rg.atS (Rg.atS (Rg.atS (Rg.atS (Rg.atS (Rg.atS (Rg.atS (Rg.atS (Rg.atS (Rg.atS (Rg.atS (Rg.atS (Rg.atS (Rg.atS (Rg.atS (Rg.atS (Rg.atS (Rg.atS (Rg.atS Rg.at0)))))))))))))))))))))) rfl (by kernel_rfl) (fun c _ _ h => hP c _ _ _ (by rfl) h) (Or.inl ⟨Ev.wanted rfl, fun w_ => ?_⟩) rfl ?_
  · have y1_ := hy
    unfold execOp
    generalize a21.eval = ev at *
    go_simp
  obtain ⟨a22, qa22⟩ : ∃ z_, z_ = a21.put (some 79) (.int .i64 (y)) := ⟨_, rfl⟩
  have k22 : Ev.Stay [12, 58, 59, 60, 61, 62, 63, 64, 65, 66, 67, 68, 69, 70, 71, 72, 73, 74, 75, 76, 77, 78, 79] a a22 := by rw [qa22]; exact k21.put (by decide) _
  have e22_0 := Ev.oth qa22 (by decide) e21_0
  have e22_11 := Ev.oth qa22 (by decide) e21_11
  have e22_12 := Ev.oth qa22 (by decide) e21_12
  have e22_14 := Ev.oth qa22 (by decide) e21_14
  have e22_58 := Ev.oth qa22 (by decide) e21_58
  have e22_78 := Ev.oth qa22 (by decide) e21_78
  have e22_79 := Ev.sam qa22 (by rw [k21.1, hsz]; decide)
  rw [← qa22]
  clear qa22 e21_0 e21_11 e21_12 e21_14 e21_58 e21_78
  clear e22_58
  clear e22_78
  refine pure_ (i := 22) (N := some 12) (v := .int .i64 (y)) #[true, true, true, true, true, true, true, true, true, true, true, true, true, true, true, true, true, true, true, true, true, true, true] (Rg.of hops (Rg.atS (Rg.atS (Rg.atS (Rg.atS (Rg.atS (Rg.atS (Rg.atS (Rg.atS (Rg.atS (Rg.atS (Rg.atS (Rg.atS (Rg.atS (Rg.atS (Rg.atS (Rg.atS (Rg.atS (Rg.atS (Rg.atS (Rg.atS (Rg.atS (Rg.atS Rg.at0))))))))))))))))))))))) rfl (by kernel_rfl) (fun c _ _ h => hP c _ _ _ (by rfl) h) (Or.inl ⟨Ev.wanted rfl, fun w_ => ?_⟩) rfl ?_
  · unfold execOp
    generalize a22.eval = ev at *
    go_simp
  obtain ⟨a23, qa23⟩ : ∃ z_, z_ = a22.put (some 12) (.int .i64 (y)) := ⟨_, rfl⟩
  have k23 : Ev.Stay [12, 58, 59, 60, 61, 62, 63, 64, 65, 66, 67, 68, 69, 70, 71, 72, 73, 74, 75, 76, 77, 78, 79] a a23 := by rw [qa23]; exact k22.put (by decide) _
  have e23_0 := Ev.oth qa23 (by decide) e22_0
  have e23_11 := Ev.oth qa23 (by decide) e22_11
  have e23_14 := Ev.oth qa23 (by decide) e22_14
  have e23_79 := Ev.oth qa23 (by decide) e22_79
  have e23_12 := Ev.sam qa23 (by rw [k22.1, hsz]; decide)
  rw [← qa23]
  clear qa23 e22_0 e22_11 e22_12 e22_14 e22_79
  refine done_ (by kernel_rfl) ?_
  exact hQ _ k23 e23_12
set_option maxHeartbeats 2000000 in
theorem Rg.x9 {id : Nat} {Q : Exit → Act → World → Prop} {a : Act} {W : World} {go t k : Nat} {gs : Nat → Nat} {x d e y : Int} {G : Nat → Nat → Int}
    (hsz : a.tmps.size = 104) (hP : ∀ c a a' w, a'.defers = a.defers → Q (.panic c) a w → Q (.panic c) a' w)  (h0 : a.eval (.tmp 0) = .int .i64 (t : Int)) (h11 : a.eval (.tmp 11) = .slice (some ⟨go, 0, none⟩) (t + 1) (t + 1)) (h13 : a.eval (.tmp 13) = .int .i64 (x)) (h14 : a.eval (.tmp 14) = .int .i64 ((k + 1 : Nat) : Int)) (hG : Mx W.drew go (t + 1) gs G) (ht : t ≤ 3) (hk : k < t) (hd : IntKind.i64.wrap (G (k + 1) (t) - G (k) (t)) = d) (he : IntKind.i64.wrap (d * 2 ^ k) = e) (hy : IntKind.i64.wrap (x + e) = y)
    (hQ : ∀ a', Ev.Stay [13, 80, 81, 82, 83, 84, 85, 86, 87, 88, 89, 90, 91, 92, 93, 94, 95, 96, 97, 98, 99, 100, 101] a a' → a'.eval (.tmp 13) = .int .i64 y → Q .normal a' W.drew) : (Code.region id (Rf.ops 13 9) true).wp Try.prog Q a W := by
  have hops : Rf.ops 13 9 = List.toArray [_, _, _, _, _, _, _, _, _, _, _, _, _, _, _, _, _, _, _, _, _, _, _] := rfl
  refine start_ (S := fun w_ => Mx w_ go (t + 1) gs G) (ds := []) #[false, false, false, false, false, false, false, false, false, false, false, false, false, false, false, false, false, false, false, false, false, false, false] (by kernel_rfl) (n := 23) rfl rfl ?S0 (fun hHeld => ?_)
  case S0 => exact hG
  have k0 : Ev.Stay [13, 80, 81, 82, 83, 84, 85, 86, 87, 88, 89, 90, 91, 92, 93, 94, 95, 96, 97, 98, 99, 100, 101] a a := Ev.Stay.refl [13, 80, 81, 82, 83, 84, 85, 86, 87, 88, 89, 90, 91, 92, 93, 94, 95, 96, 97, 98, 99, 100, 101] a
  refine pure_ (i := 0) (N := some 80) (v := .int .i64 (x)) #[true, false, false, false, false, false, false, false, false, false, false, false, false, false, false, false, false, false, false, false, false, false, false] (Rg.of hops Rg.at0) rfl (by kernel_rfl) (fun c _ _ h => hP c _ _ _ (by rfl) h) (Or.inl ⟨Ev.wanted rfl, fun w_ => ?_⟩) rfl ?_
  · unfold execOp
    generalize a.eval = ev at *
    go_simp
  obtain ⟨a1, qa1⟩ : ∃ z_, z_ = a.put (some 80) (.int .i64 (x)) := ⟨_, rfl⟩
  have k1 : Ev.Stay [13, 80, 81, 82, 83, 84, 85, 86, 87, 88, 89, 90, 91, 92, 93, 94, 95, 96, 97, 98, 99, 100, 101] a a1 := by rw [qa1]; exact k0.put (by decide) _
  have e1_0 := Ev.oth qa1 (by decide) h0
  have e1_11 := Ev.oth qa1 (by decide) h11
  have e1_13 := Ev.oth qa1 (by decide) h13
  have e1_14 := Ev.oth qa1 (by decide) h14
  have e1_80 := Ev.sam qa1 (by rw [k0.1, hsz]; decide)
  rw [← qa1]
  clear qa1 
  refine pure_ (i := 1) (N := some 81) (v := .slice (some ⟨go, 0, none⟩) (t + 1) (t + 1)) #[true, true, false, false, false, false, false, false, false, false, false, false, false, false, false, false, false, false, false, false, false, false, false] (Rg.of hops (Rg.atS Rg.at0)) rfl (by kernel_rfl) (fun c _ _ h => hP c _ _ _ (by rfl) h) (Or.inl ⟨Ev.wanted rfl, fun w_ => ?_⟩) rfl ?_
  · unfold execOp
    generalize a1.eval = ev at *
    go_simp
  obtain ⟨a2, qa2⟩ : ∃ z_, z_ = a1.put (some 81) (.slice (some ⟨go, 0, none⟩) (t + 1) (t + 1)) := ⟨_, rfl⟩
  have k2 : Ev.Stay [13, 80, 81, 82, 83, 84, 85, 86, 87, 88, 89, 90, 91, 92, 93, 94, 95, 96, 97, 98, 99, 100, 101] a a2 := by rw [qa2]; exact k1.put (by decide) _
  have e2_0 := Ev.oth qa2 (by decide) e1_0
  have e2_11 := Ev.oth qa2 (by decide) e1_11
  have e2_13 := Ev.oth qa2 (by decide) e1_13
  have e2_14 := Ev.oth qa2 (by decide) e1_14
  have e2_80 := Ev.oth qa2 (by decide) e1_80
  have e2_81 := Ev.sam qa2 (by rw [k1.1, hsz]; decide)
  rw [← qa2]
  clear qa2 e1_0 e1_11 e1_13 e1_14 e1_80
  refine pure_ (i := 2) (N := some 82) (v := .int .i64 ((k + 1 : Nat) : Int)) #[true, true, true, false, false, false, false, false, false, false, false, false, false, false, false, false, false, false, false, false, false, false, false] (Rg.of hops (Rg.atS (Rg.atS Rg.at0))) rfl (by kernel_rfl) (fun c _ _ h => hP c _ _ _ (by rfl) h) (Or.inl ⟨Ev.wanted rfl, fun w_ => ?_⟩) rfl ?_
  · unfold execOp
    generalize a2.eval = ev at *
    go_simp
  obtain ⟨a3, qa3⟩ : ∃ z_, z_ = a2.put (some 82) (.int .i64 ((k + 1 : Nat) : Int)) := ⟨_, rfl⟩
  have k3 : Ev.Stay [13, 80, 81, 82, 83, 84, 85, 86, 87, 88, 89, 90, 91, 92, 93, 94, 95, 96, 97, 98, 99, 100, 101] a a3 := by rw [qa3]; exact k2.put (by decide) _
  have e3_0 := Ev.oth qa3 (by decide) e2_0
  have e3_11 := Ev.oth qa3 (by decide) e2_11
  have e3_13 := Ev.oth qa3 (by decide) e2_13
  have e3_14 := Ev.oth qa3 (by decide) e2_14
  have e3_80 := Ev.oth qa3 (by decide) e2_80
  have e3_81 := Ev.oth qa3 (by decide) e2_81
  have e3_82 := Ev.sam qa3 (by rw [k2.1, hsz]; decide)
  rw [← qa3]
  clear qa3 e2_0 e2_11 e2_13 e2_14 e2_80 e2_81
  refine pure_ (i := 3) (N := some 83) (v := .pointer (some ⟨go, k + 1, none⟩)) #[true, true, true, true, false, false, false, false, false, false, false, false, false, false, false, false, false, false, false, false, false, false, false] (Rg.of hops (Rg.atS (Rg.atS (Rg.atS Rg.at0)))) rfl (by kernel_rfl) (fun c _ _ h => hP c _ _ _ (by rfl) h) (Or.inl ⟨Ev.wanted rfl, fun w_ => ?_⟩) rfl ?_
  · have k0_ : (0 : Int) ≤ (k : Int) := by omega
    have kt_ : (k : Int) < (t : Int) := by omega
    have lt_ : (k : Int) + 1 < (t : Int) + 1 := by omega
    have lk_ : (t : Int) < (t : Int) + 1 := by omega
    have lk3_ : (k : Int) < (t : Int) + 1 := by omega
    have lk0_ : (0 : Int) ≤ (t : Int) := by omega
    have lk4_ : (0 : Int) ≤ (k : Int) + 1 := by omega
    unfold execOp
    generalize a3.eval = ev at *
    go_simp
  obtain ⟨a4, qa4⟩ : ∃ z_, z_ = a3.put (some 83) (.pointer (some ⟨go, k + 1, none⟩)) := ⟨_, rfl⟩
  have k4 : Ev.Stay [13, 80, 81, 82, 83, 84, 85, 86, 87, 88, 89, 90, 91, 92, 93, 94, 95, 96, 97, 98, 99, 100, 101] a a4 := by rw [qa4]; exact k3.put (by decide) _
  have e4_0 := Ev.oth qa4 (by decide) e3_0
  have e4_11 := Ev.oth qa4 (by decide) e3_11
  have e4_13 := Ev.oth qa4 (by decide) e3_13
  have e4_14 := Ev.oth qa4 (by decide) e3_14
  have e4_80 := Ev.oth qa4 (by decide) e3_80
  have e4_81 := Ev.oth qa4 (by decide) e3_81
  have e4_82 := Ev.oth qa4 (by decide) e3_82
  have e4_83 := Ev.sam qa4 (by rw [k3.1, hsz]; decide)
  rw [← qa4]
  clear qa4 e3_0 e3_11 e3_13 e3_14 e3_80 e3_81 e3_82
  clear e4_81
  clear e4_82
  refine take_ (i := 4) (N := some 84) (v := .slice (some ⟨gs (k + 1), 0, none⟩) (t + 1) (t + 1)) #[true, true, true, true, true, false, false, false, false, false, false, false, false, false, false, false, false, false, false, false, false, false, false] (Rg.of hops (Rg.atS (Rg.atS (Rg.atS (Rg.atS Rg.at0))))) rfl (by kernel_rfl) (fun c _ _ h => hP c _ _ _ (by rfl) h) (Ev.loadW (Ev.wanted rfl) rfl e4_83 (fun w hw => Ev.load56 (hw.row (by omega)))) hHeld rfl ?_
  obtain ⟨a5, qa5⟩ : ∃ z_, z_ = a4.put (some 84) (.slice (some ⟨gs (k + 1), 0, none⟩) (t + 1) (t + 1)) := ⟨_, rfl⟩
  have k5 : Ev.Stay [13, 80, 81, 82, 83, 84, 85, 86, 87, 88, 89, 90, 91, 92, 93, 94, 95, 96, 97, 98, 99, 100, 101] a a5 := by rw [qa5]; exact k4.put (by decide) _
  have e5_0 := Ev.oth qa5 (by decide) e4_0
  have e5_11 := Ev.oth qa5 (by decide) e4_11
  have e5_13 := Ev.oth qa5 (by decide) e4_13
  have e5_14 := Ev.oth qa5 (by decide) e4_14
  have e5_80 := Ev.oth qa5 (by decide) e4_80
  have e5_83 := Ev.oth qa5 (by decide) e4_83
  have e5_84 := Ev.sam qa5 (by rw [k4.1, hsz]; decide)
  rw [← qa5]
  clear qa5 e4_0 e4_11 e4_13 e4_14 e4_80 e4_83
  clear e5_83
  refine pure_ (i := 5) (N := some 85) (v := .int .i64 (t : Int)) #[true, true, true, true, true, true, false, false, false, false, false, false, false, false, false, false, false, false, false, false, false, false, false] (Rg.of hops (Rg.atS (Rg.atS (Rg.atS (Rg.atS (Rg.atS Rg.at0)))))) rfl (by kernel_rfl) (fun c _ _ h => hP c _ _ _ (by rfl) h) (Or.inl ⟨Ev.wanted rfl, fun w_ => ?_⟩) rfl ?_
  · unfold execOp
    generalize a5.eval = ev at *
    go_simp
  obtain ⟨a6, qa6⟩ : ∃ z_, z_ = a5.put (some 85) (.int .i64 (t : Int)) := ⟨_, rfl⟩
  have k6 : Ev.Stay [13, 80, 81, 82, 83, 84, 85, 86, 87, 88, 89, 90, 91, 92, 93, 94, 95, 96, 97, 98, 99, 100, 101] a a6 := by rw [qa6]; exact k5.put (by decide) _
  have e6_0 := Ev.oth qa6 (by decide) e5_0
  have e6_11 := Ev.oth qa6 (by decide) e5_11
  have e6_13 := Ev.oth qa6 (by decide) e5_13
  have e6_14 := Ev.oth qa6 (by decide) e5_14
  have e6_80 := Ev.oth qa6 (by decide) e5_80
  have e6_84 := Ev.oth qa6 (by decide) e5_84
  have e6_85 := Ev.sam qa6 (by rw [k5.1, hsz]; decide)
  rw [← qa6]
  clear qa6 e5_0 e5_11 e5_13 e5_14 e5_80 e5_84
  refine pure_ (i := 6) (N := some 86) (v := .pointer (some ⟨gs (k + 1), t, none⟩)) #[true, true, true, true, true, true, true, false, false, false, false, false, false, false, false, false, false, false, false, false, false, false, false] (Rg.of hops (Rg.atS (Rg.atS (Rg.atS (Rg.atS (Rg.atS (Rg.atS Rg.at0))))))) rfl (by kernel_rfl) (fun c _ _ h => hP c _ _ _ (by rfl) h) (Or.inl ⟨Ev.wanted rfl, fun w_ => ?_⟩) rfl ?_
  · have k0_ : (0 : Int) ≤ (k : Int) := by omega
    have kt_ : (k : Int) < (t : Int) := by omega
    have lt_ : (k : Int) + 1 < (t : Int) + 1 := by omega
    have lk_ : (t : Int) < (t : Int) + 1 := by omega
    have lk3_ : (k : Int) < (t : Int) + 1 := by omega
    have lk0_ : (0 : Int) ≤ (t : Int) := by omega
    have lk4_ : (0 : Int) ≤ (k : Int) + 1 := by omega
    unfold execOp
    generalize a6.eval = ev at *
    go_simp
  obtain ⟨a7, qa7⟩ : ∃ z_, z_ = a6.put (some 86) (.pointer (some ⟨gs (k + 1), t, none⟩)) := ⟨_, rfl⟩
  have k7 : Ev.Stay [13, 80, 81, 82, 83, 84, 85, 86, 87, 88, 89, 90, 91, 92, 93, 94, 95, 96, 97, 98, 99, 100, 101] a a7 := by rw [qa7]; exact k6.put (by decide) _
  have e7_0 := Ev.oth qa7 (by decide) e6_0
  have e7_11 := Ev.oth qa7 (by decide) e6_11
  have e7_13 := Ev.oth qa7 (by decide) e6_13
  have e7_14 := Ev.oth qa7 (by decide) e6_14
  have e7_80 := Ev.oth qa7 (by decide) e6_80
  have e7_84 := Ev.oth qa7 (by decide) e6_84
  have e7_85 := Ev.oth qa7 (by decide) e6_85
  have e7_86 := Ev.sam qa7 (by rw [k6.1, hsz]; decide)
  rw [← qa7]
  clear qa7 e6_0 e6_11 e6_13 e6_14 e6_80 e6_84 e6_85
  clear e7_84
  clear e7_85
  refine take_ (i := 7) (N := some 87) (v := .int .i64 (G (k + 1) (t))) #[true, true, true, true, true, true, true, true, false, false, false, false, false, false, false, false, false, false, false, false, false, false, false] (Rg.of hops (Rg.atS (Rg.atS (Rg.atS (Rg.atS (Rg.atS (Rg.atS (Rg.atS Rg.at0)))))))) rfl (by kernel_rfl) (fun c _ _ h => hP c _ _ _ (by rfl) h) (Ev.loadW (Ev.wanted rfl) rfl e7_86 (fun w hw => Ev.load3 (hw.el (by omega) (by omega)))) hHeld rfl ?_
  obtain ⟨a8, qa8⟩ : ∃ z_, z_ = a7.put (some 87) (.int .i64 (G (k + 1) (t))) := ⟨_, rfl⟩
  have k8 : Ev.Stay [13, 80, 81, 82, 83, 84, 85, 86, 87, 88, 89, 90, 91, 92, 93, 94, 95, 96, 97, 98, 99, 100, 101] a a8 := by rw [qa8]; exact k7.put (by decide) _
  have e8_0 := Ev.oth qa8 (by decide) e7_0
  have e8_11 := Ev.oth qa8 (by decide) e7_11
  have e8_13 := Ev.oth qa8 (by decide) e7_13
  have e8_14 := Ev.oth qa8 (by decide) e7_14
  have e8_80 := Ev.oth qa8 (by decide) e7_80
  have e8_86 := Ev.oth qa8 (by decide) e7_86
  have e8_87 := Ev.sam qa8 (by rw [k7.1, hsz]; decide)
  rw [← qa8]
  clear qa8 e7_0 e7_11 e7_13 e7_14 e7_80 e7_86
  clear e8_86
  refine pure_ (i := 8) (N := some 88) (v := .slice (some ⟨go, 0, none⟩) (t + 1) (t + 1)) #[true, true, true, true, true, true, true, true, true, false, false, false, false, false, false, false, false, false, false, false, false, false, false] (Rg.of hops (Rg.atS (Rg.atS (Rg.atS (Rg.atS (Rg.atS (Rg.atS (Rg.atS (Rg.atS Rg.at0))))))))) rfl (by kernel_rfl) (fun c _ _ h => hP c _ _ _ (by rfl) h) (Or.inl ⟨Ev.wanted rfl, fun w_ => ?_⟩) rfl ?_
  · unfold execOp
    generalize a8.eval = ev at *
    go_simp
  obtain ⟨a9, qa9⟩ : ∃ z_, z_ = a8.put (some 88) (.slice (some ⟨go, 0, none⟩) (t + 1) (t + 1)) := ⟨_, rfl⟩
  have k9 : Ev.Stay [13, 80, 81, 82, 83, 84, 85, 86, 87, 88, 89, 90, 91, 92, 93, 94, 95, 96, 97, 98, 99, 100, 101] a a9 := by rw [qa9]; exact k8.put (by decide) _
  have e9_0 := Ev.oth qa9 (by decide) e8_0
  have e9_11 := Ev.oth qa9 (by decide) e8_11
  have e9_13 := Ev.oth qa9 (by decide) e8_13
  have e9_14 := Ev.oth qa9 (by decide) e8_14
  have e9_80 := Ev.oth qa9 (by decide) e8_80
  have e9_87 := Ev.oth qa9 (by decide) e8_87
  have e9_88 := Ev.sam qa9 (by rw [k8.1, hsz]; decide)
  rw [← qa9]
  clear qa9 e8_0 e8_11 e8_13 e8_14 e8_80 e8_87
  refine pure_ (i := 9) (N := some 89) (v := .int .i64 ((k + 1 : Nat) : Int)) #[true, true, true, true, true, true, true, true, true, true, false, false, false, false, false, false, false, false, false, false, false, false, false] (Rg.of hops (Rg.atS (Rg.atS (Rg.atS (Rg.atS (Rg.atS (Rg.atS (Rg.atS (Rg.atS (Rg.atS Rg.at0)))))))))) rfl (by kernel_rfl) (fun c _ _ h => hP c _ _ _ (by rfl) h) (Or.inl ⟨Ev.wanted rfl, fun w_ => ?_⟩) rfl ?_
  · unfold execOp
    generalize a9.eval = ev at *
    go_simp
  obtain ⟨a10, qa10⟩ : ∃ z_, z_ = a9.put (some 89) (.int .i64 ((k + 1 : Nat) : Int)) := ⟨_, rfl⟩
  have k10 : Ev.Stay [13, 80, 81, 82, 83, 84, 85, 86, 87, 88, 89, 90, 91, 92, 93, 94, 95, 96, 97, 98, 99, 100, 101] a a10 := by rw [qa10]; exact k9.put (by decide) _
  have e10_0 := Ev.oth qa10 (by decide) e9_0
  have e10_11 := Ev.oth qa10 (by decide) e9_11
  have e10_13 := Ev.oth qa10 (by decide) e9_13
  have e10_14 := Ev.oth qa10 (by decide) e9_14
  have e10_80 := Ev.oth qa10 (by decide) e9_80
  have e10_87 := Ev.oth qa10 (by decide) e9_87
  have e10_88 := Ev.oth qa10 (by decide) e9_88
  have e10_89 := Ev.sam qa10 (by rw [k9.1, hsz]; decide)
  rw [← qa10]
  clear qa10 e9_0 e9_11 e9_13 e9_14 e9_80 e9_87 e9_88
  refine pure_ (i := 10) (N := some 90) (v := .int .i64 (k : Int)) #[true, true, true, true, true, true, true, true, true, true, true, false, false, false, false, false, false, false, false, false, false, false, false] (Rg.of hops (Rg.atS (Rg.atS (Rg.atS (Rg.atS (Rg.atS (Rg.atS (Rg.atS (Rg.atS (Rg.atS (Rg.atS Rg.at0))))))))))) rfl (by kernel_rfl) (fun c _ _ h => hP c _ _ _ (by rfl) h) (Or.inl ⟨Ev.wanted rfl, fun w_ => ?_⟩) rfl ?_
  · have ec0 : a10.eval (.const (.int .i64 (1))) = .int .i64 (1) := rfl
    have d_ : (k : Int) + 1 - 1 = (k : Int) := by omega
    have d2_ : IntKind.i64.wrap (k : Int) = (k : Int) := wr (by omega) (by omega)
    unfold execOp
    generalize a10.eval = ev at *
    (go_simp; try (exact wr (by omega) (by omega)))
  obtain ⟨a11, qa11⟩ : ∃ z_, z_ = a10.put (some 90) (.int .i64 (k : Int)) := ⟨_, rfl⟩
  have k11 : Ev.Stay [13, 80, 81, 82, 83, 84, 85, 86, 87, 88, 89, 90, 91, 92, 93, 94, 95, 96, 97, 98, 99, 100, 101] a a11 := by rw [qa11]; exact k10.put (by decide) _
  have e11_0 := Ev.oth qa11 (by decide) e10_0
  have e11_11 := Ev.oth qa11 (by decide) e10_11
  have e11_13 := Ev.oth qa11 (by decide) e10_13
  have e11_14 := Ev.oth qa11 (by decide) e10_14
  have e11_80 := Ev.oth qa11 (by decide) e10_80
  have e11_87 := Ev.oth qa11 (by decide) e10_87
  have e11_88 := Ev.oth qa11 (by decide) e10_88
  have e11_89 := Ev.oth qa11 (by decide) e10_89
  have e11_90 := Ev.sam qa11 (by rw [k10.1, hsz]; decide)
  rw [← qa11]
  clear qa11 e10_0 e10_11 e10_13 e10_14 e10_80 e10_87 e10_88 e10_89
  clear e11_89
  refine pure_ (i := 11) (N := some 91) (v := .pointer (some ⟨go, k, none⟩)) #[true, true, true, true, true, true, true, true, true, true, true, true, false, false, false, false, false, false, false, false, false, false, false] (Rg.of hops (Rg.atS (Rg.atS (Rg.atS (Rg.atS (Rg.atS (Rg.atS (Rg.atS (Rg.atS (Rg.atS (Rg.atS (Rg.atS Rg.at0)))))))))))) rfl (by kernel_rfl) (fun c _ _ h => hP c _ _ _ (by rfl) h) (Or.inl ⟨Ev.wanted rfl, fun w_ => ?_⟩) rfl ?_
  · have k0_ : (0 : Int) ≤ (k : Int) := by omega
    have kt_ : (k : Int) < (t : Int) := by omega
    have lt_ : (k : Int) + 1 < (t : Int) + 1 := by omega
    have lk_ : (t : Int) < (t : Int) + 1 := by omega
    have lk3_ : (k : Int) < (t : Int) + 1 := by omega
    have lk0_ : (0 : Int) ≤ (t : Int) := by omega
    have lk4_ : (0 : Int) ≤ (k : Int) + 1 := by omega
    unfold execOp
    generalize a11.eval = ev at *
    go_simp
  obtain ⟨a12, qa12⟩ : ∃ z_, z_ = a11.put (some 91) (.pointer (some ⟨go, k, none⟩)) := ⟨_, rfl⟩
  have k12 : Ev.Stay [13, 80, 81, 82, 83, 84, 85, 86, 87, 88, 89, 90, 91, 92, 93, 94, 95, 96, 97, 98, 99, 100, 101] a a12 := by rw [qa12]; exact k11.put (by decide) _
  have e12_0 := Ev.oth qa12 (by decide) e11_0
  have e12_11 := Ev.oth qa12 (by decide) e11_11
  have e12_13 := Ev.oth qa12 (by decide) e11_13
  have e12_14 := Ev.oth qa12 (by decide) e11_14
  have e12_80 := Ev.oth qa12 (by decide) e11_80
  have e12_87 := Ev.oth qa12 (by decide) e11_87
  have e12_88 := Ev.oth qa12 (by decide) e11_88
  have e12_90 := Ev.oth qa12 (by decide) e11_90
  have e12_91 := Ev.sam qa12 (by rw [k11.1, hsz]; decide)
  rw [← qa12]
  clear qa12 e11_0 e11_11 e11_13 e11_14 e11_80 e11_87 e11_88 e11_90
  clear e12_88
  clear e12_90
  refine take_ (i := 12) (N := some 92) (v := .slice (some ⟨gs (k), 0, none⟩) (t + 1) (t + 1)) #[true, true, true, true, true, true, true, true, true, true, true, true, true, false, false, false, false, false, false, false, false, false, false] (Rg.of hops (Rg.atS (Rg.atS (Rg.atS (Rg.atS (Rg.atS (Rg.atS (Rg.atS (Rg.atS (Rg.atS (Rg.atS (Rg.atS (Rg.atS Rg.at0))))))))))))) rfl (by kernel_rfl) (fun c _ _ h => hP c _ _ _ (by rfl) h) (Ev.loadW (Ev.wanted rfl) rfl e12_91 (fun w hw => Ev.load56 (hw.row (by omega)))) hHeld rfl ?_
  obtain ⟨a13, qa13⟩ : ∃ z_, z_ = a12.put (some 92) (.slice (some ⟨gs (k), 0, none⟩) (t + 1) (t + 1)) := ⟨_, rfl⟩
  have k13 : Ev.Stay [13, 80, 81, 82, 83, 84, 85, 86, 87, 88, 89, 90, 91, 92, 93, 94, 95, 96, 97, 98, 99, 100, 101] a a13 := by rw [qa13]; exact k12.put (by decide) _
  have e13_0 := Ev.oth qa13 (by decide) e12_0
  have e13_11 := Ev.oth qa13 (by decide) e12_11
  have e13_13 := Ev.oth qa13 (by decide) e12_13
  have e13_14 := Ev.oth qa13 (by decide) e12_14
  have e13_80 := Ev.oth qa13 (by decide) e12_80
  have e13_87 := Ev.oth qa13 (by decide) e12_87
  have e13_91 := Ev.oth qa13 (by decide) e12_91
  have e13_92 := Ev.sam qa13 (by rw [k12.1, hsz]; decide)
  rw [← qa13]
  clear qa13 e12_0 e12_11 e12_13 e12_14 e12_80 e12_87 e12_91
  clear e13_91
  refine pure_ (i := 13) (N := some 93) (v := .int .i64 (t : Int)) #[true, true, true, true, true, true, true, true, true, true, true, true, true, true, false, false, false, false, false, false, false, false, false] (Rg.of hops (Rg.atS (Rg.atS (Rg.atS (Rg.atS (Rg.atS (Rg.atS (Rg.atS (Rg.atS (Rg.atS (Rg.atS (Rg.atS (Rg.atS (Rg.atS Rg.at0)))))))))))))) rfl (by kernel_rfl) (fun c _ _ h => hP c _ _ _ (by rfl) h) (Or.inl ⟨Ev.wanted rfl, fun w_ => ?_⟩) rfl ?_
  · unfold execOp
    generalize a13.eval = ev at *
    go_simp
  obtain ⟨a14, qa14⟩ : ∃ z_, z_ = a13.put (some 93) (.int .i64 (t : Int)) := ⟨_, rfl⟩
  have k14 : Ev.Stay [13, 80, 81, 82, 83, 84, 85, 86, 87, 88, 89, 90, 91, 92, 93, 94, 95, 96, 97, 98, 99, 100, 101] a a14 := by rw [qa14]; exact k13.put (by decide) _
  have e14_0 := Ev.oth qa14 (by decide) e13_0
  have e14_11 := Ev.oth qa14 (by decide) e13_11
  have e14_13 := Ev.oth qa14 (by decide) e13_13
  have e14_14 := Ev.oth qa14 (by decide) e13_14
  have e14_80 := Ev.oth qa14 (by decide) e13_80
  have e14_87 := Ev.oth qa14 (by decide) e13_87
  have e14_92 := Ev.oth qa14 (by decide) e13_92
  have e14_93 := Ev.sam qa14 (by rw [k13.1, hsz]; decide)
  rw [← qa14]
  clear qa14 e13_0 e13_11 e13_13 e13_14 e13_80 e13_87 e13_92
  refine pure_ (i := 14) (N := some 94) (v := .pointer (some ⟨gs (k), t, none⟩)) #[true, true, true, true, true, true, true, true, true, true, true, true, true, true, true, false, false, false, false, false, false, false, false] (Rg.of hops (Rg.atS (Rg.atS (Rg.atS (Rg.atS (Rg.atS (Rg.atS (Rg.atS (Rg.atS (Rg.atS (Rg.atS (Rg.atS (Rg.atS (Rg.atS (Rg.atS Rg.at0))))))))))))))) rfl (by kernel_rfl) (fun c _ _ h => hP c _ _ _ (by rfl) h) (Or.inl ⟨Ev.wanted rfl, fun w_ => ?_⟩) rfl ?_
  · have k0_ : (0 : Int) ≤ (k : Int) := by omega
    have kt_ : (k : Int) < (t : Int) := by omega
    have lt_ : (k : Int) + 1 < (t : Int) + 1 := by omega
    have lk_ : (t : Int) < (t : Int) + 1 := by omega
    have lk3_ : (k : Int) < (t : Int) + 1 := by omega
    have lk0_ : (0 : Int) ≤ (t : Int) := by omega
    have lk4_ : (0 : Int) ≤ (k : Int) + 1 := by omega
    unfold execOp
    generalize a14.eval = ev at *
    go_simp
  obtain ⟨a15, qa15⟩ : ∃ z_, z_ = a14.put (some 94) (.pointer (some ⟨gs (k), t, none⟩)) := ⟨_, rfl⟩
  have k15 : Ev.Stay [13, 80, 81, 82, 83, 84, 85, 86, 87, 88, 89, 90, 91, 92, 93, 94, 95, 96, 97, 98, 99, 100, 101] a a15 := by rw [qa15]; exact k14.put (by decide) _
  have e15_0 := Ev.oth qa15 (by decide) e14_0
  have e15_11 := Ev.oth qa15 (by decide) e14_11
  have e15_13 := Ev.oth qa15 (by decide) e14_13
  have e15_14 := Ev.oth qa15 (by decide) e14_14
  have e15_80 := Ev.oth qa15 (by decide) e14_80
  have e15_87 := Ev.oth qa15 (by decide) e14_87
  have e15_92 := Ev.oth qa15 (by decide) e14_92
  have e15_93 := Ev.oth qa15 (by decide) e14_93
  have e15_94 := Ev.sam qa15 (by rw [k14.1, hsz]; decide)
  rw [← qa15]
  clear qa15 e14_0 e14_11 e14_13 e14_14 e14_80 e14_87 e14_92 e14_93
  clear e15_92
  clear e15_93
  refine take_ (i := 15) (N := some 95) (v := .int .i64 (G (k) (t))) #[true, true, true, true, true, true, true, true, true, true, true, true, true, true, true, true, false, false, false, false, false, false, false] (Rg.of hops (Rg.atS (Rg.atS (Rg.atS (Rg.atS (Rg.atS (Rg.atS (Rg.atS (Rg.atS (Rg.atS (Rg.atS (Rg.atS (Rg.atS (Rg.atS (Rg.atS (Rg.atS Rg.at0)))))))))))))))) rfl (by kernel_rfl) (fun c _ _ h => hP c _ _ _ (by rfl) h) (Ev.loadW (Ev.wanted rfl) rfl e15_94 (fun w hw => Ev.load3 (hw.el (by omega) (by omega)))) hHeld rfl ?_
  obtain ⟨a16, qa16⟩ : ∃ z_, z_ = a15.put (some 95) (.int .i64 (G (k) (t))) := ⟨_, rfl⟩
  have k16 : Ev.Stay [13, 80, 81, 82, 83, 84, 85, 86, 87, 88, 89, 90, 91, 92, 93, 94, 95, 96, 97, 98, 99, 100, 101] a a16 := by rw [qa16]; exact k15.put (by decide) _
  have e16_0 := Ev.oth qa16 (by decide) e15_0
  have e16_11 := Ev.oth qa16 (by decide) e15_11
  have e16_13 := Ev.oth qa16 (by decide) e15_13
  have e16_14 := Ev.oth qa16 (by decide) e15_14
  have e16_80 := Ev.oth qa16 (by decide) e15_80
  have e16_87 := Ev.oth qa16 (by decide) e15_87
  have e16_94 := Ev.oth qa16 (by decide) e15_94
  have e16_95 := Ev.sam qa16 (by rw [k15.1, hsz]; decide)
  rw [← qa16]
  clear qa16 e15_0 e15_11 e15_13 e15_14 e15_80 e15_87 e15_94
  clear e16_94
  refine pure_ (i := 16) (N := some 96) (v := .int .i64 (d)) #[true, true, true, true, true, true, true, true, true, true, true, true, true, true, true, true, true, false, false, false, false, false, false] (Rg.of hops (Rg.atS (Rg.atS (Rg.atS (Rg.atS (Rg.atS (Rg.atS (Rg.atS (Rg.atS (Rg.atS (Rg.atS (Rg.atS (Rg.atS (Rg.atS (Rg.atS (Rg.atS (Rg.atS Rg.at0))))))))))))))))) rfl (by kernel_rfl) (fun c _ _ h => hP c _ _ _ (by rfl) h) (Or.inl ⟨Ev.wanted rfl, fun w_ => ?_⟩) rfl ?_
  · have d1_ := hd
    unfold execOp
    generalize a16.eval = ev at *
    go_simp
  obtain ⟨a17, qa17⟩ : ∃ z_, z_ = a16.put (some 96) (.int .i64 (d)) := ⟨_, rfl⟩
  have k17 : Ev.Stay [13, 80, 81, 82, 83, 84, 85, 86, 87, 88, 89, 90, 91, 92, 93, 94, 95, 96, 97, 98, 99, 100, 101] a a17 := by rw [qa17]; exact k16.put (by decide) _
  have e17_0 := Ev.oth qa17 (by decide) e16_0
  have e17_11 := Ev.oth qa17 (by decide) e16_11
  have e17_13 := Ev.oth qa17 (by decide) e16_13
  have e17_14 := Ev.oth qa17 (by decide) e16_14
  have e17_80 := Ev.oth qa17 (by decide) e16_80
  have e17_87 := Ev.oth qa17 (by decide) e16_87
  have e17_95 := Ev.oth qa17 (by decide) e16_95
  have e17_96 := Ev.sam qa17 (by rw [k16.1, hsz]; decide)
  rw [← qa17]
  clear qa17 e16_0 e16_11 e16_13 e16_14 e16_80 e16_87 e16_95
  clear e17_87
  clear e17_95
  refine pure_ (i := 17) (N := some 97) (v := .int .i64 ((k + 1 : Nat) : Int)) #[true, true, true, true, true, true, true, true, true, true, true, true, true, true, true, true, true, true, false, false, false, false, false] (Rg.of hops (Rg.atS (Rg.atS (Rg.atS (Rg.atS (Rg.atS (Rg.atS (Rg.atS (Rg.atS (Rg.atS (Rg.atS (Rg.atS (Rg.atS (Rg.atS (Rg.atS (Rg.atS (Rg.atS (Rg.atS Rg.at0)))))))))))))))))) rfl (by kernel_rfl) (fun c _ _ h => hP c _ _ _ (by rfl) h) (Or.inl ⟨Ev.wanted rfl, fun w_ => ?_⟩) rfl ?_
  · unfold execOp
    generalize a17.eval = ev at *
    go_simp
  obtain ⟨a18, qa18⟩ : ∃ z_, z_ = a17.put (some 97) (.int .i64 ((k + 1 : Nat) : Int)) := ⟨_, rfl⟩
  have k18 : Ev.Stay [13, 80, 81, 82, 83, 84, 85, 86, 87, 88, 89, 90, 91, 92, 93, 94, 95, 96, 97, 98, 99, 100, 101] a a18 := by rw [qa18]; exact k17.put (by decide) _
  have e18_0 := Ev.oth qa18 (by decide) e17_0
  have e18_11 := Ev.oth qa18 (by decide) e17_11
  have e18_13 := Ev.oth qa18 (by decide) e17_13
  have e18_14 := Ev.oth qa18 (by decide) e17_14
  have e18_80 := Ev.oth qa18 (by decide) e17_80
  have e18_96 := Ev.oth qa18 (by decide) e17_96
  have e18_97 := Ev.sam qa18 (by rw [k17.1, hsz]; decide)
  rw [← qa18]
  clear qa18 e17_0 e17_11 e17_13 e17_14 e17_80 e17_96
  refine pure_ (i := 18) (N := some 98) (v := .int .i64 (k : Int)) #[true, true, true, true, true, true, true, true, true, true, true, true, true, true, true, true, true, true, true, false, false, false, false] (Rg.of hops (Rg.atS (Rg.atS (Rg.atS (Rg.atS (Rg.atS (Rg.atS (Rg.atS (Rg.atS (Rg.atS (Rg.atS (Rg.atS (Rg.atS (Rg.atS (Rg.atS (Rg.atS (Rg.atS (Rg.atS (Rg.atS Rg.at0))))))))))))))))))) rfl (by kernel_rfl) (fun c _ _ h => hP c _ _ _ (by rfl) h) (Or.inl ⟨Ev.wanted rfl, fun w_ => ?_⟩) rfl ?_
  · have ec0 : a18.eval (.const (.int .i64 (1))) = .int .i64 (1) := rfl
    have d_ : (k : Int) + 1 - 1 = (k : Int) := by omega
    have d2_ : IntKind.i64.wrap (k : Int) = (k : Int) := wr (by omega) (by omega)
    unfold execOp
    generalize a18.eval = ev at *
    (go_simp; try (exact wr (by omega) (by omega)))
  obtain ⟨a19, qa19⟩ : ∃ z_, z_ = a18.put (some 98) (.int .i64 (k : Int)) := ⟨_, rfl⟩
  have k19 : Ev.Stay [13, 80, 81, 82, 83, 84, 85, 86, 87, 88, 89, 90, 91, 92, 93, 94, 95, 96, 97, 98, 99, 100, 101] a a19 := by rw [qa19]; exact k18.put (by decide) _
  have e19_0 := Ev.oth qa19 (by decide) e18_0
  have e19_11 := Ev.oth qa19 (by decide) e18_11
  have e19_13 := Ev.oth qa19 (by decide) e18_13
  have e19_14 := Ev.oth qa19 (by decide) e18_14
  have e19_80 := Ev.oth qa19 (by decide) e18_80
  have e19_96 := Ev.oth qa19 (by decide) e18_96
  have e19_97 := Ev.oth qa19 (by decide) e18_97
  have e19_98 := Ev.sam qa19 (by rw [k18.1, hsz]; decide)
  rw [← qa19]
  clear qa19 e18_0 e18_11 e18_13 e18_14 e18_80 e18_96 e18_97
  clear e19_97
  refine pure_ (i := 19) (N := some 99) (v := .int .u64 (k : Int)) #[true, true, true, true, true, true, true, true, true, true, true, true, true, true, true, true, true, true, true, true, false, false, false] (Rg.of hops (Rg.atS (Rg.atS (Rg.atS (Rg.atS (Rg.atS (Rg.atS (Rg.atS (Rg.atS (Rg.atS (Rg.atS (Rg.atS (Rg.atS (Rg.atS (Rg.atS (Rg.atS (Rg.atS (Rg.atS (Rg.atS (Rg.atS Rg.at0)))))))))))))))))))) rfl (by kernel_rfl) (fun c _ _ h => hP c _ _ _ (by rfl) h) (Or.inl ⟨Ev.wanted rfl, fun w_ => ?_⟩) rfl ?_
  · have u_ : IntKind.u64.wrap (k : Int) = (k : Int) := wu (by omega) (by omega)
    unfold execOp
    generalize a19.eval = ev at *
    go_simp
  obtain ⟨a20, qa20⟩ : ∃ z_, z_ = a19.put (some 99) (.int .u64 (k : Int)) := ⟨_, rfl⟩
  have k20 : Ev.Stay [13, 80, 81, 82, 83, 84, 85, 86, 87, 88, 89, 90, 91, 92, 93, 94, 95, 96, 97, 98, 99, 100, 101] a a20 := by rw [qa20]; exact k19.put (by decide) _
  have e20_0 := Ev.oth qa20 (by decide) e19_0
  have e20_11 := Ev.oth qa20 (by decide) e19_11
  have e20_13 := Ev.oth qa20 (by decide) e19_13
  have e20_14 := Ev.oth qa20 (by decide) e19_14
  have e20_80 := Ev.oth qa20 (by decide) e19_80
  have e20_96 := Ev.oth qa20 (by decide) e19_96
  have e20_98 := Ev.oth qa20 (by decide) e19_98
  have e20_99 := Ev.sam qa20 (by rw [k19.1, hsz]; decide)
  rw [← qa20]
  clear qa20 e19_0 e19_11 e19_13 e19_14 e19_80 e19_96 e19_98
  clear e20_98
  refine pure_ (i := 20) (N := some 100) (v := .int .i64 (e)) #[true, true, true, true, true, true, true, true, true, true, true, true, true, true, true, true, true, true, true, true, true, false, false] (Rg.of hops (Rg.atS (Rg.atS (Rg.atS (Rg.atS (Rg.atS (Rg.atS (Rg.atS (Rg.atS (Rg.atS (Rg.atS (Rg.atS (Rg.atS (Rg.atS (Rg.atS (Rg.atS (Rg.atS (Rg.atS (Rg.atS (Rg.atS (Rg.atS Rg.at0))))))))))))))))))))) rfl (by kernel_rfl) (fun c _ _ h => hP c _ _ _ (by rfl) h) (Or.inl ⟨Ev.wanted rfl, fun w_ => ?_⟩) rfl ?_
  · have l0_ : (0 : Int) ≤ (k : Int) := by omega
    have mn_ : min k 64 = k := by omega
    have e1_ := he
    unfold execOp
    generalize a20.eval = ev at *
    go_simp
  obtain ⟨a21, qa21⟩ : ∃ z_, z_ = a20.put (some 100) (.int .i64 (e)) := ⟨_, rfl⟩
  have k21 : Ev.Stay [13, 80, 81, 82, 83, 84, 85, 86, 87, 88, 89, 90, 91, 92, 93, 94, 95, 96, 97, 98, 99, 100, 101] a a21 := by rw [qa21]; exact k20.put (by decide) _
  have e21_0 := Ev.oth qa21 (by decide) e20_0
  have e21_11 := Ev.oth qa21 (by decide) e20_11
  have e21_13 := Ev.oth qa21 (by decide) e20_13
  have e21_14 := Ev.oth qa21 (by decide) e20_14
  have e21_80 := Ev.oth qa21 (by decide) e20_80
  have e21_96 := Ev.oth qa21 (by decide) e20_96
  have e21_99 := Ev.oth qa21 (by decide) e20_99
  have e21_100 := Ev.sam qa21 (by rw [k20.1, hsz]; decide)
  rw [← qa21]
  clear qa21 e20_0 e20_11 e20_13 e20_14 e20_80 e20_96 e20_99
  clear e21_96
  clear e21_99
  refine pure_ (i := 21) (N := some 101) (v := .int .i64 (y)) #[true, true, true, true, true, true, true, true, true, true, true, true, true, true, true, true, true, true, true, true, true, true, false] (Rg.of hops (Rg.atS (Rg.atS (Rg.atS (Rg.atS (Rg.atS (Rg.atS (Rg.atS (Rg.atS (Rg.atS (Rg.atS (Rg.atS (Rg.atS (Rg.atS (Rg.atS (Rg.atS (Rg.atS (Rg.atS (Rg.atS (Rg.atS (Rg.atS (Rg.atS Rg.at0)))))))))))))))))))))) rfl (by kernel_rfl) (fun c _ _ h => hP c _ _ _ (by rfl) h) (Or.inl ⟨Ev.wanted rfl, fun w_ => ?_⟩) rfl ?_
  · have y1_ := hy
    unfold execOp
    generalize a21.eval = ev at *
    go_simp
  obtain ⟨a22, qa22⟩ : ∃ z_, z_ = a21.put (some 101) (.int .i64 (y)) := ⟨_, rfl⟩
  have k22 : Ev.Stay [13, 80, 81, 82, 83, 84, 85, 86, 87, 88, 89, 90, 91, 92, 93, 94, 95, 96, 97, 98, 99, 100, 101] a a22 := by rw [qa22]; exact k21.put (by decide) _
  have e22_0 := Ev.oth qa22 (by decide) e21_0
  have e22_11 := Ev.oth qa22 (by decide) e21_11
  have e22_13 := Ev.oth qa22 (by decide) e21_13
  have e22_14 := Ev.oth qa22 (by decide) e21_14
  have e22_80 := Ev.oth qa22 (by decide) e21_80
  have e22_100 := Ev.oth qa22 (by decide) e21_100
  have e22_101 := Ev.sam qa22 (by rw [k21.1, hsz]; decide)
  rw [← qa22]
  clear qa22 e21_0 e21_11 e21_13 e21_14 e21_80 e21_100
  clear e22_80
  clear e22_100
  refine pure_ (i := 22) (N := some 13) (v := .int .i64 (y)) #[true, true, true, true, true, true, true, true, true, true, true, true, true, true, true, true, true, true, true, true, true, true, true] (Rg.of hops (Rg.atS (Rg.atS (Rg.atS (Rg.atS (Rg.atS (Rg.atS (Rg.atS (Rg.atS (Rg.atS (Rg.atS (Rg.atS (Rg.atS (Rg.atS (Rg.atS (Rg.atS (Rg.atS (Rg.atS (Rg.atS (Rg.atS (Rg.atS (Rg.atS (Rg.atS Rg.at0))))))))))))))))))))))) rfl (by kernel_rfl) (fun c _ _ h => hP c _ _ _ (by rfl) h) (Or.inl ⟨Ev.wanted rfl, fun w_ => ?_⟩) rfl ?_
  · unfold execOp
    generalize a22.eval = ev at *
    go_simp
  obtain ⟨a23, qa23⟩ : ∃ z_, z_ = a22.put (some 13) (.int .i64 (y)) := ⟨_, rfl⟩
  have k23 : Ev.Stay [13, 80, 81, 82, 83, 84, 85, 86, 87, 88, 89, 90, 91, 92, 93, 94, 95, 96, 97, 98, 99, 100, 101] a a23 := by rw [qa23]; exact k22.put (by decide) _
  have e23_0 := Ev.oth qa23 (by decide) e22_0
  have e23_11 := Ev.oth qa23 (by decide) e22_11
  have e23_14 := Ev.oth qa23 (by decide) e22_14
  have e23_101 := Ev.oth qa23 (by decide) e22_101
  have e23_13 := Ev.sam qa23 (by rw [k22.1, hsz]; decide)
  rw [← qa23]
  clear qa23 e22_0 e22_11 e22_13 e22_14 e22_101
  refine done_ (by kernel_rfl) ?_
  exact hQ _ k23 e23_13
set_option maxHeartbeats 2000000 in
theorem Rg.x0 {id : Nat} {Q : Exit → Act → World → Prop} {a : Act} {W : World} 
    (hsz : a.tmps.size = 104)  
    (hQ : ∀ a', Ev.Stay [8, 9, 10] a a' → Q .normal a' (W)) : (Code.region id (Rf.ops 13 0) false).wp Try.prog Q a W := by
  refine wp_region_list ?_
  show wpList _ _ _ (_ :: _ :: _ :: []) _ _
  have k0 : Ev.Stay [8, 9, 10] a a := Ev.Stay.refl [8, 9, 10] a
  refine Ev.pv (N := 8) (v := .int .i64 (0)) (W' := W) ?_ rfl rfl ?_
  · have ec0 : a.eval (.const (.int .i64 (0))) = .int .i64 (0) := rfl
    unfold execOp
    generalize a.eval = ev at *
    go_simp
  obtain ⟨a1, qa1⟩ : ∃ z_, z_ = a.put (some 8) (.int .i64 (0)) := ⟨_, rfl⟩
  have k1 : Ev.Stay [8, 9, 10] a a1 := by rw [qa1]; exact k0.put (by decide) _
  have e1_8 := Ev.sam qa1 (by rw [k0.1, hsz]; decide)
  rw [← qa1]
  clear qa1 
  refine Ev.pv (N := 9) (v := .int .i64 (0)) (W' := W) ?_ rfl rfl ?_
  · have ec0 : a1.eval (.const (.int .i64 (0))) = .int .i64 (0) := rfl
    unfold execOp
    generalize a1.eval = ev at *
    go_simp
  obtain ⟨a2, qa2⟩ : ∃ z_, z_ = a1.put (some 9) (.int .i64 (0)) := ⟨_, rfl⟩
  have k2 : Ev.Stay [8, 9, 10] a a2 := by rw [qa2]; exact k1.put (by decide) _
  have e2_8 := Ev.oth qa2 (by decide) e1_8
  have e2_9 := Ev.sam qa2 (by rw [k1.1, hsz]; decide)
  rw [← qa2]
  clear qa2 e1_8
  refine Ev.pv (N := 10) (v := .int .i64 (0)) (W' := W) ?_ rfl rfl ?_
  · have ec0 : a2.eval (.const (.int .i64 (0))) = .int .i64 (0) := rfl
    unfold execOp
    generalize a2.eval = ev at *
    go_simp
  obtain ⟨a3, qa3⟩ : ∃ z_, z_ = a2.put (some 10) (.int .i64 (0)) := ⟨_, rfl⟩
  have k3 : Ev.Stay [8, 9, 10] a a3 := by rw [qa3]; exact k2.put (by decide) _
  have e3_8 := Ev.oth qa3 (by decide) e2_8
  have e3_9 := Ev.oth qa3 (by decide) e2_9
  have e3_10 := Ev.sam qa3 (by rw [k2.1, hsz]; decide)
  rw [← qa3]
  clear qa3 e2_8 e2_9
  exact hQ _ k3 
set_option maxHeartbeats 2000000 in
theorem Rg.x4 {id : Nat} {Q : Exit → Act → World → Prop} {a : Act} {W : World} 
    (hsz : a.tmps.size = 104)  
    (hQ : ∀ a', Ev.Stay [12, 13] a a' → a'.eval (.tmp 12) = .int .i64 (0) → a'.eval (.tmp 13) = .int .i64 (0) → Q .normal a' (W)) : (Code.region id (Rf.ops 13 4) false).wp Try.prog Q a W := by
  refine wp_region_list ?_
  show wpList _ _ _ (_ :: _ :: []) _ _
  have k0 : Ev.Stay [12, 13] a a := Ev.Stay.refl [12, 13] a
  refine Ev.pv (N := 12) (v := .int .i64 (0)) (W' := W) ?_ rfl rfl ?_
  · have ec0 : a.eval (.const (.int .i64 (0))) = .int .i64 (0) := rfl
    unfold execOp
    generalize a.eval = ev at *
    go_simp
  obtain ⟨a1, qa1⟩ : ∃ z_, z_ = a.put (some 12) (.int .i64 (0)) := ⟨_, rfl⟩
  have k1 : Ev.Stay [12, 13] a a1 := by rw [qa1]; exact k0.put (by decide) _
  have e1_12 := Ev.sam qa1 (by rw [k0.1, hsz]; decide)
  rw [← qa1]
  clear qa1 
  refine Ev.pv (N := 13) (v := .int .i64 (0)) (W' := W) ?_ rfl rfl ?_
  · have ec0 : a1.eval (.const (.int .i64 (0))) = .int .i64 (0) := rfl
    unfold execOp
    generalize a1.eval = ev at *
    go_simp
  obtain ⟨a2, qa2⟩ : ∃ z_, z_ = a1.put (some 13) (.int .i64 (0)) := ⟨_, rfl⟩
  have k2 : Ev.Stay [12, 13] a a2 := by rw [qa2]; exact k1.put (by decide) _
  have e2_12 := Ev.oth qa2 (by decide) e1_12
  have e2_13 := Ev.sam qa2 (by rw [k1.1, hsz]; decide)
  rw [← qa2]
  clear qa2 e1_12
  exact hQ _ k2 e2_12 e2_13
set_option maxHeartbeats 2000000 in
theorem Rg.x5 {id : Nat} {Q : Exit → Act → World → Prop} {a : Act} {W : World} 
    (hsz : a.tmps.size = 104)  
    (hQ : ∀ a', Ev.Stay [14] a a' → a'.eval (.tmp 14) = .int .i64 (1) → Q .normal a' (W)) : (Code.region id (Rf.ops 13 5) false).wp Try.prog Q a W := by
  refine wp_region_list ?_
  show wpList _ _ _ (_ :: []) _ _
  have k0 : Ev.Stay [14] a a := Ev.Stay.refl [14] a
  refine Ev.pv (N := 14) (v := .int .i64 (1)) (W' := W) ?_ rfl rfl ?_
  · have ec0 : a.eval (.const (.int .i64 (1))) = .int .i64 (1) := rfl
    unfold execOp
    generalize a.eval = ev at *
    go_simp
  obtain ⟨a1, qa1⟩ : ∃ z_, z_ = a.put (some 14) (.int .i64 (1)) := ⟨_, rfl⟩
  have k1 : Ev.Stay [14] a a1 := by rw [qa1]; exact k0.put (by decide) _
  have e1_14 := Ev.sam qa1 (by rw [k0.1, hsz]; decide)
  rw [← qa1]
  clear qa1 
  exact hQ _ k1 e1_14
set_option maxHeartbeats 2000000 in
theorem Rg.x6 {id : Nat} {Q : Exit → Act → World → Prop} {a : Act} {W : World} {k t : Nat}
    (hsz : a.tmps.size = 104)  (h14 : a.eval (.tmp 14) = .int .i64 (k : Int)) (h0 : a.eval (.tmp 0) = .int .i64 (t : Int))
    (hQ : ∀ a', Ev.Stay [53, 54, 55] a a' → a'.eval (.tmp 55) = .bool (decide (k ≤ t)) → Q .normal a' (W)) : (Code.region id (Rf.ops 13 6) false).wp Try.prog Q a W := by
  refine wp_region_list ?_
  show wpList _ _ _ (_ :: _ :: _ :: []) _ _
  have k0 : Ev.Stay [53, 54, 55] a a := Ev.Stay.refl [53, 54, 55] a
  refine Ev.pv (N := 53) (v := .int .i64 (k : Int)) (W' := W) ?_ rfl rfl ?_
  · unfold execOp
    generalize a.eval = ev at *
    go_simp
  obtain ⟨a1, qa1⟩ : ∃ z_, z_ = a.put (some 53) (.int .i64 (k : Int)) := ⟨_, rfl⟩
  have k1 : Ev.Stay [53, 54, 55] a a1 := by rw [qa1]; exact k0.put (by decide) _
  have e1_14 := Ev.oth qa1 (by decide) h14
  have e1_0 := Ev.oth qa1 (by decide) h0
  have e1_53 := Ev.sam qa1 (by rw [k0.1, hsz]; decide)
  rw [← qa1]
  clear qa1 
  refine Ev.pv (N := 54) (v := .int .i64 (t : Int)) (W' := W) ?_ rfl rfl ?_
  · unfold execOp
    generalize a1.eval = ev at *
    go_simp
  obtain ⟨a2, qa2⟩ : ∃ z_, z_ = a1.put (some 54) (.int .i64 (t : Int)) := ⟨_, rfl⟩
  have k2 : Ev.Stay [53, 54, 55] a a2 := by rw [qa2]; exact k1.put (by decide) _
  have e2_14 := Ev.oth qa2 (by decide) e1_14
  have e2_0 := Ev.oth qa2 (by decide) e1_0
  have e2_53 := Ev.oth qa2 (by decide) e1_53
  have e2_54 := Ev.sam qa2 (by rw [k1.1, hsz]; decide)
  rw [← qa2]
  clear qa2 e1_14 e1_0 e1_53
  refine Ev.pv (N := 55) (v := .bool (decide (k ≤ t))) (W' := W) ?_ rfl rfl ?_
  · unfold execOp
    generalize a2.eval = ev at *
    (go_simp; try (rw [Bool.eq_iff_iff]; simp))
  obtain ⟨a3, qa3⟩ : ∃ z_, z_ = a2.put (some 55) (.bool (decide (k ≤ t))) := ⟨_, rfl⟩
  have k3 : Ev.Stay [53, 54, 55] a a3 := by rw [qa3]; exact k2.put (by decide) _
  have e3_14 := Ev.oth qa3 (by decide) e2_14
  have e3_0 := Ev.oth qa3 (by decide) e2_0
  have e3_53 := Ev.oth qa3 (by decide) e2_53
  have e3_54 := Ev.oth qa3 (by decide) e2_54
  have e3_55 := Ev.sam qa3 (by rw [k2.1, hsz]; decide)
  rw [← qa3]
  clear qa3 e2_14 e2_0 e2_53 e2_54
  exact hQ _ k3 e3_55
set_option maxHeartbeats 2000000 in
theorem Rg.x7 {id : Nat} {Q : Exit → Act → World → Prop} {a : Act} {W : World} {k : Nat}
    (hsz : a.tmps.size = 104)  (h14 : a.eval (.tmp 14) = .int .i64 (k : Int)) (hk : k < 100)
    (hQ : ∀ a', Ev.Stay [56, 57, 14] a a' → a'.eval (.tmp 14) = .int .i64 ((k + 1 : Nat) : Int) → Q .normal a' (W)) : (Code.region id (Rf.ops 13 7) false).wp Try.prog Q a W := by
  refine wp_region_list ?_
  show wpList _ _ _ (_ :: _ :: _ :: []) _ _
  have k0 : Ev.Stay [56, 57, 14] a a := Ev.Stay.refl [56, 57, 14] a
  refine Ev.pv (N := 56) (v := .int .i64 (k : Int)) (W' := W) ?_ rfl rfl ?_
  · unfold execOp
    generalize a.eval = ev at *
    go_simp
  obtain ⟨a1, qa1⟩ : ∃ z_, z_ = a.put (some 56) (.int .i64 (k : Int)) := ⟨_, rfl⟩
  have k1 : Ev.Stay [56, 57, 14] a a1 := by rw [qa1]; exact k0.put (by decide) _
  have e1_14 := Ev.oth qa1 (by decide) h14
  have e1_56 := Ev.sam qa1 (by rw [k0.1, hsz]; decide)
  rw [← qa1]
  clear qa1 
  refine Ev.pv (N := 57) (v := .int .i64 ((k + 1 : Nat) : Int)) (W' := W) ?_ rfl rfl ?_
  · have ec0 : a1.eval (.const (.int .i64 (1))) = .int .i64 (1) := rfl
    unfold execOp
    generalize a1.eval = ev at *
    (go_simp; exact wr (by omega) (by omega))
  obtain ⟨a2, qa2⟩ : ∃ z_, z_ = a1.put (some 57) (.int .i64 ((k + 1 : Nat) : Int)) := ⟨_, rfl⟩
  have k2 : Ev.Stay [56, 57, 14] a a2 := by rw [qa2]; exact k1.put (by decide) _
  have e2_14 := Ev.oth qa2 (by decide) e1_14
  have e2_56 := Ev.oth qa2 (by decide) e1_56
  have e2_57 := Ev.sam qa2 (by rw [k1.1, hsz]; decide)
  rw [← qa2]
  clear qa2 e1_14 e1_56
  refine Ev.pv (N := 14) (v := .int .i64 ((k + 1 : Nat) : Int)) (W' := W) ?_ rfl rfl ?_
  · unfold execOp
    generalize a2.eval = ev at *
    go_simp
  obtain ⟨a3, qa3⟩ : ∃ z_, z_ = a2.put (some 14) (.int .i64 ((k + 1 : Nat) : Int)) := ⟨_, rfl⟩
  have k3 : Ev.Stay [56, 57, 14] a a3 := by rw [qa3]; exact k2.put (by decide) _
  have e3_56 := Ev.oth qa3 (by decide) e2_56
  have e3_57 := Ev.oth qa3 (by decide) e2_57
  have e3_14 := Ev.sam qa3 (by rw [k2.1, hsz]; decide)
  rw [← qa3]
  clear qa3 e2_14 e2_56 e2_57
  exact hQ _ k3 e3_14
set_option maxHeartbeats 2000000 in
theorem Rg.x10 {id : Nat} {Q : Exit → Act → World → Prop} {a : Act} {W : World} {x y : Int}
    (hsz : a.tmps.size = 104)  (h12 : a.eval (.tmp 12) = .int .i64 (x)) (h13 : a.eval (.tmp 13) = .int .i64 (y))
    (hQ : ∀ a', Ev.Stay [102, 103, 8, 9, 10] a a' → a'.eval (.tmp 8) = .int .i64 (x) → a'.eval (.tmp 9) = .int .i64 (y) → a'.eval (.tmp 10) = .int .i64 (0) → Q .normal a' (W)) : (Code.region id (Rf.ops 13 10) false).wp Try.prog Q a W := by
  refine wp_region_list ?_
  show wpList _ _ _ (_ :: _ :: _ :: _ :: _ :: []) _ _
  have k0 : Ev.Stay [102, 103, 8, 9, 10] a a := Ev.Stay.refl [102, 103, 8, 9, 10] a
  refine Ev.pv (N := 102) (v := .int .i64 (x)) (W' := W) ?_ rfl rfl ?_
  · unfold execOp
    generalize a.eval = ev at *
    go_simp
  obtain ⟨a1, qa1⟩ : ∃ z_, z_ = a.put (some 102) (.int .i64 (x)) := ⟨_, rfl⟩
  have k1 : Ev.Stay [102, 103, 8, 9, 10] a a1 := by rw [qa1]; exact k0.put (by decide) _
  have e1_12 := Ev.oth qa1 (by decide) h12
  have e1_13 := Ev.oth qa1 (by decide) h13
  have e1_102 := Ev.sam qa1 (by rw [k0.1, hsz]; decide)
  rw [← qa1]
  clear qa1 
  refine Ev.pv (N := 103) (v := .int .i64 (y)) (W' := W) ?_ rfl rfl ?_
  · unfold execOp
    generalize a1.eval = ev at *
    go_simp
  obtain ⟨a2, qa2⟩ : ∃ z_, z_ = a1.put (some 103) (.int .i64 (y)) := ⟨_, rfl⟩
  have k2 : Ev.Stay [102, 103, 8, 9, 10] a a2 := by rw [qa2]; exact k1.put (by decide) _
  have e2_12 := Ev.oth qa2 (by decide) e1_12
  have e2_13 := Ev.oth qa2 (by decide) e1_13
  have e2_102 := Ev.oth qa2 (by decide) e1_102
  have e2_103 := Ev.sam qa2 (by rw [k1.1, hsz]; decide)
  rw [← qa2]
  clear qa2 e1_12 e1_13 e1_102
  refine Ev.pv (N := 8) (v := .int .i64 (x)) (W' := W) ?_ rfl rfl ?_
  · unfold execOp
    generalize a2.eval = ev at *
    go_simp
  obtain ⟨a3, qa3⟩ : ∃ z_, z_ = a2.put (some 8) (.int .i64 (x)) := ⟨_, rfl⟩
  have k3 : Ev.Stay [102, 103, 8, 9, 10] a a3 := by rw [qa3]; exact k2.put (by decide) _
  have e3_12 := Ev.oth qa3 (by decide) e2_12
  have e3_13 := Ev.oth qa3 (by decide) e2_13
  have e3_102 := Ev.oth qa3 (by decide) e2_102
  have e3_103 := Ev.oth qa3 (by decide) e2_103
  have e3_8 := Ev.sam qa3 (by rw [k2.1, hsz]; decide)
  rw [← qa3]
  clear qa3 e2_12 e2_13 e2_102 e2_103
  refine Ev.pv (N := 9) (v := .int .i64 (y)) (W' := W) ?_ rfl rfl ?_
  · unfold execOp
    generalize a3.eval = ev at *
    go_simp
  obtain ⟨a4, qa4⟩ : ∃ z_, z_ = a3.put (some 9) (.int .i64 (y)) := ⟨_, rfl⟩
  have k4 : Ev.Stay [102, 103, 8, 9, 10] a a4 := by rw [qa4]; exact k3.put (by decide) _
  have e4_12 := Ev.oth qa4 (by decide) e3_12
  have e4_13 := Ev.oth qa4 (by decide) e3_13
  have e4_102 := Ev.oth qa4 (by decide) e3_102
  have e4_103 := Ev.oth qa4 (by decide) e3_103
  have e4_8 := Ev.oth qa4 (by decide) e3_8
  have e4_9 := Ev.sam qa4 (by rw [k3.1, hsz]; decide)
  rw [← qa4]
  clear qa4 e3_12 e3_13 e3_102 e3_103 e3_8
  refine Ev.pv (N := 10) (v := .int .i64 (0)) (W' := W) ?_ rfl rfl ?_
  · have ec0 : a4.eval (.const (.int .i64 (0))) = .int .i64 (0) := rfl
    unfold execOp
    generalize a4.eval = ev at *
    go_simp
  obtain ⟨a5, qa5⟩ : ∃ z_, z_ = a4.put (some 10) (.int .i64 (0)) := ⟨_, rfl⟩
  have k5 : Ev.Stay [102, 103, 8, 9, 10] a a5 := by rw [qa5]; exact k4.put (by decide) _
  have e5_12 := Ev.oth qa5 (by decide) e4_12
  have e5_13 := Ev.oth qa5 (by decide) e4_13
  have e5_102 := Ev.oth qa5 (by decide) e4_102
  have e5_103 := Ev.oth qa5 (by decide) e4_103
  have e5_8 := Ev.oth qa5 (by decide) e4_8
  have e5_9 := Ev.oth qa5 (by decide) e4_9
  have e5_10 := Ev.sam qa5 (by rw [k4.1, hsz]; decide)
  rw [← qa5]
  clear qa5 e4_12 e4_13 e4_102 e4_103 e4_8 e4_9
  exact hQ _ k5 e5_8 e5_9 e5_10
set_option maxHeartbeats 2000000 in
theorem Rg.x3 {id : Nat} {Q : Exit → Act → World → Prop} {a : Act} {W : World} {t : Nat} {q p l : Int} {RR : Value → World → Prop}
    (hsz : a.tmps.size = 104)  (h0 : a.eval (.tmp 0) = .int .i64 (t : Int)) (h1 : a.eval (.tmp 1) = .int .i64 (q)) (h2 : a.eval (.tmp 2) = .int .i64 (p)) (h3 : a.eval (.tmp 3) = .int .i64 (l)) (hc : Calls Try.prog 19 #[.int .i64 (t : Int), .int .i64 (q), .int .i64 (p), .int .i64 (l)] W fun e w' => ∃ v, e = .returned v ∧ RR v w')
    (hQ : ∀ a' v W', Ev.Stay [48, 49, 50, 51, 52, 11] a a' → a'.eval (.tmp 11) = v → RR v W' → Q .normal a' W') : (Code.region id (Rf.ops 13 3) false).wp Try.prog Q a W := by
  refine wp_region_list ?_
  show wpList _ _ _ (_ :: _ :: _ :: _ :: _ :: _ :: []) _ _
  have k0 : Ev.Stay [48, 49, 50, 51, 52, 11] a a := Ev.Stay.refl [48, 49, 50, 51, 52, 11] a
  refine Ev.pv (N := 48) (v := .int .i64 (t : Int)) (W' := W) ?_ rfl rfl ?_
  · unfold execOp
    generalize a.eval = ev at *
    go_simp
  obtain ⟨a1, qa1⟩ : ∃ z_, z_ = a.put (some 48) (.int .i64 (t : Int)) := ⟨_, rfl⟩
  have k1 : Ev.Stay [48, 49, 50, 51, 52, 11] a a1 := by rw [qa1]; exact k0.put (by decide) _
  have e1_0 := Ev.oth qa1 (by decide) h0
  have e1_1 := Ev.oth qa1 (by decide) h1
  have e1_2 := Ev.oth qa1 (by decide) h2
  have e1_3 := Ev.oth qa1 (by decide) h3
  have e1_48 := Ev.sam qa1 (by rw [k0.1, hsz]; decide)
  rw [← qa1]
  clear qa1 
  refine Ev.pv (N := 49) (v := .int .i64 (q)) (W' := W) ?_ rfl rfl ?_
  · unfold execOp
    generalize a1.eval = ev at *
    go_simp
  obtain ⟨a2, qa2⟩ : ∃ z_, z_ = a1.put (some 49) (.int .i64 (q)) := ⟨_, rfl⟩
  have k2 : Ev.Stay [48, 49, 50, 51, 52, 11] a a2 := by rw [qa2]; exact k1.put (by decide) _
  have e2_0 := Ev.oth qa2 (by decide) e1_0
  have e2_1 := Ev.oth qa2 (by decide) e1_1
  have e2_2 := Ev.oth qa2 (by decide) e1_2
  have e2_3 := Ev.oth qa2 (by decide) e1_3
  have e2_48 := Ev.oth qa2 (by decide) e1_48
  have e2_49 := Ev.sam qa2 (by rw [k1.1, hsz]; decide)
  rw [← qa2]
  clear qa2 e1_0 e1_1 e1_2 e1_3 e1_48
  refine Ev.pv (N := 50) (v := .int .i64 (p)) (W' := W) ?_ rfl rfl ?_
  · unfold execOp
    generalize a2.eval = ev at *
    go_simp
  obtain ⟨a3, qa3⟩ : ∃ z_, z_ = a2.put (some 50) (.int .i64 (p)) := ⟨_, rfl⟩
  have k3 : Ev.Stay [48, 49, 50, 51, 52, 11] a a3 := by rw [qa3]; exact k2.put (by decide) _
  have e3_0 := Ev.oth qa3 (by decide) e2_0
  have e3_1 := Ev.oth qa3 (by decide) e2_1
  have e3_2 := Ev.oth qa3 (by decide) e2_2
  have e3_3 := Ev.oth qa3 (by decide) e2_3
  have e3_48 := Ev.oth qa3 (by decide) e2_48
  have e3_49 := Ev.oth qa3 (by decide) e2_49
  have e3_50 := Ev.sam qa3 (by rw [k2.1, hsz]; decide)
  rw [← qa3]
  clear qa3 e2_0 e2_1 e2_2 e2_3 e2_48 e2_49
  refine Ev.pv (N := 51) (v := .int .i64 (l)) (W' := W) ?_ rfl rfl ?_
  · unfold execOp
    generalize a3.eval = ev at *
    go_simp
  obtain ⟨a4, qa4⟩ : ∃ z_, z_ = a3.put (some 51) (.int .i64 (l)) := ⟨_, rfl⟩
  have k4 : Ev.Stay [48, 49, 50, 51, 52, 11] a a4 := by rw [qa4]; exact k3.put (by decide) _
  have e4_0 := Ev.oth qa4 (by decide) e3_0
  have e4_1 := Ev.oth qa4 (by decide) e3_1
  have e4_2 := Ev.oth qa4 (by decide) e3_2
  have e4_3 := Ev.oth qa4 (by decide) e3_3
  have e4_48 := Ev.oth qa4 (by decide) e3_48
  have e4_49 := Ev.oth qa4 (by decide) e3_49
  have e4_50 := Ev.oth qa4 (by decide) e3_50
  have e4_51 := Ev.sam qa4 (by rw [k3.1, hsz]; decide)
  rw [← qa4]
  clear qa4 e3_0 e3_1 e3_2 e3_3 e3_48 e3_49 e3_50
  refine Ev.pc (N := 52) (f := 19) (args := #[.int .i64 (t : Int), .int .i64 (q), .int .i64 (p), .int .i64 (l)]) ?_ rfl rfl (hc.mono ?_)
  · have ef : a4.eval (.func 19) = .func (.func 19) #[] #[] := rfl
    unfold execOp
    generalize a4.eval = ev at *
    go_simp
  rintro e w' ⟨v, rfl, hR⟩
  refine ⟨_, rfl, ?_⟩
  obtain ⟨a5, qa5⟩ : ∃ z_, z_ = a4.put (some 52) (v) := ⟨_, rfl⟩
  have k5 : Ev.Stay [48, 49, 50, 51, 52, 11] a a5 := by rw [qa5]; exact k4.put (by decide) _
  have e5_0 := Ev.oth qa5 (by decide) e4_0
  have e5_1 := Ev.oth qa5 (by decide) e4_1
  have e5_2 := Ev.oth qa5 (by decide) e4_2
  have e5_3 := Ev.oth qa5 (by decide) e4_3
  have e5_48 := Ev.oth qa5 (by decide) e4_48
  have e5_49 := Ev.oth qa5 (by decide) e4_49
  have e5_50 := Ev.oth qa5 (by decide) e4_50
  have e5_51 := Ev.oth qa5 (by decide) e4_51
  have e5_52 := Ev.sam qa5 (by rw [k4.1, hsz]; decide)
  rw [← qa5]
  clear qa5 e4_0 e4_1 e4_2 e4_3 e4_48 e4_49 e4_50 e4_51
  clear hc
  refine Ev.pv (N := 11) (v := v) (W' := w') ?_ rfl rfl ?_
  · unfold execOp
    generalize a5.eval = ev at *
    (simp [go_sem, *])
  obtain ⟨a6, qa6⟩ : ∃ z_, z_ = a5.put (some 11) (v) := ⟨_, rfl⟩
  have k6 : Ev.Stay [48, 49, 50, 51, 52, 11] a a6 := by rw [qa6]; exact k5.put (by decide) _
  have e6_0 := Ev.oth qa6 (by decide) e5_0
  have e6_1 := Ev.oth qa6 (by decide) e5_1
  have e6_2 := Ev.oth qa6 (by decide) e5_2
  have e6_3 := Ev.oth qa6 (by decide) e5_3
  have e6_48 := Ev.oth qa6 (by decide) e5_48
  have e6_49 := Ev.oth qa6 (by decide) e5_49
  have e6_50 := Ev.oth qa6 (by decide) e5_50
  have e6_51 := Ev.oth qa6 (by decide) e5_51
  have e6_52 := Ev.oth qa6 (by decide) e5_52
  have e6_11 := Ev.sam qa6 (by rw [k5.1, hsz]; decide)
  rw [← qa6]
  clear qa6 e5_0 e5_1 e5_2 e5_3 e5_48 e5_49 e5_50 e5_51 e5_52
  exact hQ _ _ _ k6 e6_11 hR
set_option maxHeartbeats 2000000 in
theorem Rg.x1 {id : Nat} {Q : Exit → Act → World → Prop} {a : Act} {W : World} {t : Nat} {q p l : Int}
    (hsz : a.tmps.size = 104)  (h0 : a.eval (.tmp 0) = .int .i64 (t : Int)) (h1 : a.eval (.tmp 1) = .int .i64 (q)) (h2 : a.eval (.tmp 2) = .int .i64 (p)) (h3 : a.eval (.tmp 3) = .int .i64 (l)) (ht : 1 ≤ t ∧ t ≤ 3) (b0 : ¬ q < 0) (b1 : ¬ ((2 ^ (t * t) : Nat) : Int) ≤ q) (b2 : ¬ p < 0) (b3 : ¬ ((2 ^ t : Nat) : Int) ≤ p) (b4 : ¬ l < 0) (b5 : ¬ ((2 ^ t : Nat) : Int) ≤ l)
    (hQ : ∀ a', Ev.Stay [15, 16, 17, 18, 19, 20, 21, 22, 23, 24, 25, 26, 27, 28, 29, 30, 31, 32, 33, 34, 35, 36, 37, 38, 39, 40, 41, 42, 43, 44, 45, 46, 47] a a' → a'.eval (.tmp 47) = .bool false → Q .normal a' W) : (Code.region id (Rf.ops 13 1) false).wp Try.prog Q a W := by
  have hops : Rf.ops 13 1 = List.toArray [_, _, _, _, _, _, _, _, _, _, _, _, _, _, _, _, _, _, _, _, _, _, _, _, _, _, _, _, _, _, _, _, _] := rfl
  refine wp_region_list ?_
  show wpList _ _ _ (_ :: _ :: _ :: _ :: _ :: _ :: _ :: _ :: _ :: _ :: _ :: _ :: _ :: _ :: _ :: _ :: _ :: _ :: _ :: _ :: _ :: _ :: _ :: _ :: _ :: _ :: _ :: _ :: _ :: _ :: _ :: _ :: _ :: []) _ _
  have k0 : Ev.Stay [15, 16, 17, 18, 19, 20, 21, 22, 23, 24, 25, 26, 27, 28, 29, 30, 31, 32, 33, 34, 35, 36, 37, 38, 39, 40, 41, 42, 43, 44, 45, 46, 47] a a := Ev.Stay.refl [15, 16, 17, 18, 19, 20, 21, 22, 23, 24, 25, 26, 27, 28, 29, 30, 31, 32, 33, 34, 35, 36, 37, 38, 39, 40, 41, 42, 43, 44, 45, 46, 47] a
  refine Ev.pv (N := 15) (v := .int .i64 (q)) (W' := W) ?_ rfl rfl ?_
  · unfold execOp
    generalize a.eval = ev at *
    go_simp
  obtain ⟨a1, qa1⟩ : ∃ z_, z_ = a.put (some 15) (.int .i64 (q)) := ⟨_, rfl⟩
  have k1 : Ev.Stay [15, 16, 17, 18, 19, 20, 21, 22, 23, 24, 25, 26, 27, 28, 29, 30, 31, 32, 33, 34, 35, 36, 37, 38, 39, 40, 41, 42, 43, 44, 45, 46, 47] a a1 := by rw [qa1]; exact k0.put (by decide) _
  have e1_0 := Ev.oth qa1 (by decide) h0
  have e1_1 := Ev.oth qa1 (by decide) h1
  have e1_2 := Ev.oth qa1 (by decide) h2
  have e1_3 := Ev.oth qa1 (by decide) h3
  have e1_15 := Ev.sam qa1 (by rw [k0.1, hsz]; decide)
  rw [← qa1]
  clear qa1 
  refine Ev.pv (N := 16) (v := .bool false) (W' := W) ?_ rfl rfl ?_
  · have ec0 : a1.eval (.const (.int .i64 (0))) = .int .i64 (0) := rfl
    have f_ : decide (q < 0) = false := by simpa using b0
    have f2_ := b0
    unfold execOp
    generalize a1.eval = ev at *
    go_simp
  obtain ⟨a2, qa2⟩ : ∃ z_, z_ = a1.put (some 16) (.bool false) := ⟨_, rfl⟩
  have k2 : Ev.Stay [15, 16, 17, 18, 19, 20, 21, 22, 23, 24, 25, 26, 27, 28, 29, 30, 31, 32, 33, 34, 35, 36, 37, 38, 39, 40, 41, 42, 43, 44, 45, 46, 47] a a2 := by rw [qa2]; exact k1.put (by decide) _
  have e2_0 := Ev.oth qa2 (by decide) e1_0
  have e2_1 := Ev.oth qa2 (by decide) e1_1
  have e2_2 := Ev.oth qa2 (by decide) e1_2
  have e2_3 := Ev.oth qa2 (by decide) e1_3
  have e2_15 := Ev.oth qa2 (by decide) e1_15
  have e2_16 := Ev.sam qa2 (by rw [k1.1, hsz]; decide)
  rw [← qa2]
  clear qa2 e1_0 e1_1 e1_2 e1_3 e1_15
  clear e2_15
  refine Ev.pv (N := 17) (v := .bool false) (W' := W) ?_ rfl rfl ?_
  · unfold execOp
    generalize a2.eval = ev at *
    go_simp
  obtain ⟨a3, qa3⟩ : ∃ z_, z_ = a2.put (some 17) (.bool false) := ⟨_, rfl⟩
  have k3 : Ev.Stay [15, 16, 17, 18, 19, 20, 21, 22, 23, 24, 25, 26, 27, 28, 29, 30, 31, 32, 33, 34, 35, 36, 37, 38, 39, 40, 41, 42, 43, 44, 45, 46, 47] a a3 := by rw [qa3]; exact k2.put (by decide) _
  have e3_0 := Ev.oth qa3 (by decide) e2_0
  have e3_1 := Ev.oth qa3 (by decide) e2_1
  have e3_2 := Ev.oth qa3 (by decide) e2_2
  have e3_3 := Ev.oth qa3 (by decide) e2_3
  have e3_16 := Ev.oth qa3 (by decide) e2_16
  have e3_17 := Ev.sam qa3 (by rw [k2.1, hsz]; decide)
  rw [← qa3]
  clear qa3 e2_0 e2_1 e2_2 e2_3 e2_16
  clear e3_16
  refine Ev.pvG (N := 18) (v := .int .i64 (q)) (W' := W) ?_ (Ev.wantedG rfl (Rg.of hops (Rg.atS (Rg.atS Rg.at0))) rfl e3_17) rfl ?_
  · unfold execOp
    generalize a3.eval = ev at *
    go_simp
  obtain ⟨a4, qa4⟩ : ∃ z_, z_ = a3.put (some 18) (.int .i64 (q)) := ⟨_, rfl⟩
  have k4 : Ev.Stay [15, 16, 17, 18, 19, 20, 21, 22, 23, 24, 25, 26, 27, 28, 29, 30, 31, 32, 33, 34, 35, 36, 37, 38, 39, 40, 41, 42, 43, 44, 45, 46, 47] a a4 := by rw [qa4]; exact k3.put (by decide) _
  have e4_0 := Ev.oth qa4 (by decide) e3_0
  have e4_1 := Ev.oth qa4 (by decide) e3_1
  have e4_2 := Ev.oth qa4 (by decide) e3_2
  have e4_3 := Ev.oth qa4 (by decide) e3_3
  have e4_17 := Ev.oth qa4 (by decide) e3_17
  have e4_18 := Ev.sam qa4 (by rw [k3.1, hsz]; decide)
  rw [← qa4]
  clear qa4 e3_0 e3_1 e3_2 e3_3 e3_17
  refine Ev.pvG (N := 19) (v := .int .i64 (t : Int)) (W' := W) ?_ (Ev.wantedG rfl (Rg.of hops (Rg.atS (Rg.atS Rg.at0))) rfl e4_17) rfl ?_
  · unfold execOp
    generalize a4.eval = ev at *
    go_simp
  obtain ⟨a5, qa5⟩ : ∃ z_, z_ = a4.put (some 19) (.int .i64 (t : Int)) := ⟨_, rfl⟩
  have k5 : Ev.Stay [15, 16, 17, 18, 19, 20, 21, 22, 23, 24, 25, 26, 27, 28, 29, 30, 31, 32, 33, 34, 35, 36, 37, 38, 39, 40, 41, 42, 43, 44, 45, 46, 47] a a5 := by rw [qa5]; exact k4.put (by decide) _
  have e5_0 := Ev.oth qa5 (by decide) e4_0
  have e5_1 := Ev.oth qa5 (by decide) e4_1
  have e5_2 := Ev.oth qa5 (by decide) e4_2
  have e5_3 := Ev.oth qa5 (by decide) e4_3
  have e5_17 := Ev.oth qa5 (by decide) e4_17
  have e5_18 := Ev.oth qa5 (by decide) e4_18
  have e5_19 := Ev.sam qa5 (by rw [k4.1, hsz]; decide)
  rw [← qa5]
  clear qa5 e4_0 e4_1 e4_2 e4_3 e4_17 e4_18
  refine Ev.pvG (N := 20) (v := .int .i64 (t : Int)) (W' := W) ?_ (Ev.wantedG rfl (Rg.of hops (Rg.atS (Rg.atS Rg.at0))) rfl e5_17) rfl ?_
  · unfold execOp
    generalize a5.eval = ev at *
    go_simp
  obtain ⟨a6, qa6⟩ : ∃ z_, z_ = a5.put (some 20) (.int .i64 (t : Int)) := ⟨_, rfl⟩
  have k6 : Ev.Stay [15, 16, 17, 18, 19, 20, 21, 22, 23, 24, 25, 26, 27, 28, 29, 30, 31, 32, 33, 34, 35, 36, 37, 38, 39, 40, 41, 42, 43, 44, 45, 46, 47] a a6 := by rw [qa6]; exact k5.put (by decide) _
  have e6_0 := Ev.oth qa6 (by decide) e5_0
  have e6_1 := Ev.oth qa6 (by decide) e5_1
  have e6_2 := Ev.oth qa6 (by decide) e5_2
  have e6_3 := Ev.oth qa6 (by decide) e5_3
  have e6_17 := Ev.oth qa6 (by decide) e5_17
  have e6_18 := Ev.oth qa6 (by decide) e5_18
  have e6_19 := Ev.oth qa6 (by decide) e5_19
  have e6_20 := Ev.sam qa6 (by rw [k5.1, hsz]; decide)
  rw [← qa6]
  clear qa6 e5_0 e5_1 e5_2 e5_3 e5_17 e5_18 e5_19
  refine Ev.pvG (N := 21) (v := .int .i64 ((t * t : Nat) : Int)) (W' := W) ?_ (Ev.wantedG rfl (Rg.of hops (Rg.atS (Rg.atS Rg.at0))) rfl e6_17) rfl ?_
  · have t3_ : t * t ≤ 9 := Nat.mul_le_mul ht.2 ht.2
    have e_ : ((t * t : Nat) : Int) = (t : Int) * (t : Int) := by simp
    unfold execOp
    generalize a6.eval = ev at *
    (go_simp; rw [← e_]; exact wr (by omega) (by omega))
  obtain ⟨a7, qa7⟩ : ∃ z_, z_ = a6.put (some 21) (.int .i64 ((t * t : Nat) : Int)) := ⟨_, rfl⟩
  have k7 : Ev.Stay [15, 16, 17, 18, 19, 20, 21, 22, 23, 24, 25, 26, 27, 28, 29, 30, 31, 32, 33, 34, 35, 36, 37, 38, 39, 40, 41, 42, 43, 44, 45, 46, 47] a a7 := by rw [qa7]; exact k6.put (by decide) _
  have e7_0 := Ev.oth qa7 (by decide) e6_0
  have e7_1 := Ev.oth qa7 (by decide) e6_1
  have e7_2 := Ev.oth qa7 (by decide) e6_2
  have e7_3 := Ev.oth qa7 (by decide) e6_3
  have e7_17 := Ev.oth qa7 (by decide) e6_17
  have e7_18 := Ev.oth qa7 (by decide) e6_18
  have e7_19 := Ev.oth qa7 (by decide) e6_19
  have e7_20 := Ev.oth qa7 (by decide) e6_20
  have e7_21 := Ev.sam qa7 (by rw [k6.1, hsz]; decide)
  rw [← qa7]
  clear qa7 e6_0 e6_1 e6_2 e6_3 e6_17 e6_18 e6_19 e6_20
  clear e7_19
  clear e7_20
  refine Ev.pvG (N := 22) (v := .int .u64 ((t * t : Nat) : Int)) (W' := W) ?_ (Ev.wantedG rfl (Rg.of hops (Rg.atS (Rg.atS Rg.at0))) rfl e7_17) rfl ?_
  · have t3_ : t * t ≤ 9 := Nat.mul_le_mul ht.2 ht.2
    have e_ : ((t * t : Nat) : Int) = (t : Int) * (t : Int) := by simp
    have u_ : IntKind.u64.wrap ((t : Int) * (t : Int)) = (t : Int) * (t : Int) := by rw [← e_]; exact wu (by omega) (by omega)
    clear e_
    unfold execOp
    generalize a7.eval = ev at *
    go_simp
  obtain ⟨a8, qa8⟩ : ∃ z_, z_ = a7.put (some 22) (.int .u64 ((t * t : Nat) : Int)) := ⟨_, rfl⟩
  have k8 : Ev.Stay [15, 16, 17, 18, 19, 20, 21, 22, 23, 24, 25, 26, 27, 28, 29, 30, 31, 32, 33, 34, 35, 36, 37, 38, 39, 40, 41, 42, 43, 44, 45, 46, 47] a a8 := by rw [qa8]; exact k7.put (by decide) _
  have e8_0 := Ev.oth qa8 (by decide) e7_0
  have e8_1 := Ev.oth qa8 (by decide) e7_1
  have e8_2 := Ev.oth qa8 (by decide) e7_2
  have e8_3 := Ev.oth qa8 (by decide) e7_3
  have e8_17 := Ev.oth qa8 (by decide) e7_17
  have e8_18 := Ev.oth qa8 (by decide) e7_18
  have e8_21 := Ev.oth qa8 (by decide) e7_21
  have e8_22 := Ev.sam qa8 (by rw [k7.1, hsz]; decide)
  rw [← qa8]
  clear qa8 e7_0 e7_1 e7_2 e7_3 e7_17 e7_18 e7_21
  clear e8_21
  refine Ev.pvG (N := 23) (v := .int .i64 ((2 ^ (t * t) : Nat) : Int)) (W' := W) ?_ (Ev.wantedG rfl (Rg.of hops (Rg.atS (Rg.atS Rg.at0))) rfl e8_17) rfl ?_
  · have ec0 : a8.eval (.const (.int .i64 (1))) = .int .i64 (1) := rfl
    have t3_ : t * t ≤ 9 := Nat.mul_le_mul ht.2 ht.2
    have e_ : ((t * t : Nat) : Int) = (t : Int) * (t : Int) := by simp
    have l0_ : (0 : Int) ≤ (t : Int) * (t : Int) := by omega
    have l1_ : ((t : Int) * (t : Int)).toNat = t * t := by omega
    have mn_ : min (t * t) 64 = t * t := by omega
    have hp_ := pow_tt ht
    clear e_
    unfold execOp
    generalize a8.eval = ev at *
    (go_simp; try exact hp_)
  obtain ⟨a9, qa9⟩ : ∃ z_, z_ = a8.put (some 23) (.int .i64 ((2 ^ (t * t) : Nat) : Int)) := ⟨_, rfl⟩
  have k9 : Ev.Stay [15, 16, 17, 18, 19, 20, 21, 22, 23, 24, 25, 26, 27, 28, 29, 30, 31, 32, 33, 34, 35, 36, 37, 38, 39, 40, 41, 42, 43, 44, 45, 46, 47] a a9 := by rw [qa9]; exact k8.put (by decide) _
  have e9_0 := Ev.oth qa9 (by decide) e8_0
  have e9_1 := Ev.oth qa9 (by decide) e8_1
  have e9_2 := Ev.oth qa9 (by decide) e8_2
  have e9_3 := Ev.oth qa9 (by decide) e8_3
  have e9_17 := Ev.oth qa9 (by decide) e8_17
  have e9_18 := Ev.oth qa9 (by decide) e8_18
  have e9_22 := Ev.oth qa9 (by decide) e8_22
  have e9_23 := Ev.sam qa9 (by rw [k8.1, hsz]; decide)
  rw [← qa9]
  clear qa9 e8_0 e8_1 e8_2 e8_3 e8_17 e8_18 e8_22
  clear e9_22
  refine Ev.pvG (N := 24) (v := .bool false) (W' := W) ?_ (Ev.wantedG rfl (Rg.of hops (Rg.atS (Rg.atS Rg.at0))) rfl e9_17) rfl ?_
  · have f_ : decide (((2 ^ (t * t) : Nat) : Int) ≤ q) = false := by simpa using b1
    have f2_ := b1
    unfold execOp
    generalize a9.eval = ev at *
    (go_simp; try (first | exact b1 | (simp at f2_ ⊢; omega) | simpa using f2_))
  obtain ⟨a10, qa10⟩ : ∃ z_, z_ = a9.put (some 24) (.bool false) := ⟨_, rfl⟩
  have k10 : Ev.Stay [15, 16, 17, 18, 19, 20, 21, 22, 23, 24, 25, 26, 27, 28, 29, 30, 31, 32, 33, 34, 35, 36, 37, 38, 39, 40, 41, 42, 43, 44, 45, 46, 47] a a10 := by rw [qa10]; exact k9.put (by decide) _
  have e10_0 := Ev.oth qa10 (by decide) e9_0
  have e10_1 := Ev.oth qa10 (by decide) e9_1
  have e10_2 := Ev.oth qa10 (by decide) e9_2
  have e10_3 := Ev.oth qa10 (by decide) e9_3
  have e10_17 := Ev.oth qa10 (by decide) e9_17
  have e10_18 := Ev.oth qa10 (by decide) e9_18
  have e10_23 := Ev.oth qa10 (by decide) e9_23
  have e10_24 := Ev.sam qa10 (by rw [k9.1, hsz]; decide)
  rw [← qa10]
  clear qa10 e9_0 e9_1 e9_2 e9_3 e9_17 e9_18 e9_23
  clear e10_18
  clear e10_23
  refine Ev.pv (N := 25) (v := .bool false) (W' := W) ?_ rfl rfl ?_
  · have ec0 : a10.eval (.const (.bool true)) = .bool true := rfl
    unfold execOp
    generalize a10.eval = ev at *
    go_simp
  obtain ⟨a11, qa11⟩ : ∃ z_, z_ = a10.put (some 25) (.bool false) := ⟨_, rfl⟩
  have k11 : Ev.Stay [15, 16, 17, 18, 19, 20, 21, 22, 23, 24, 25, 26, 27, 28, 29, 30, 31, 32, 33, 34, 35, 36, 37, 38, 39, 40, 41, 42, 43, 44, 45, 46, 47] a a11 := by rw [qa11]; exact k10.put (by decide) _
  have e11_0 := Ev.oth qa11 (by decide) e10_0
  have e11_1 := Ev.oth qa11 (by decide) e10_1
  have e11_2 := Ev.oth qa11 (by decide) e10_2
  have e11_3 := Ev.oth qa11 (by decide) e10_3
  have e11_17 := Ev.oth qa11 (by decide) e10_17
  have e11_24 := Ev.oth qa11 (by decide) e10_24
  have e11_25 := Ev.sam qa11 (by rw [k10.1, hsz]; decide)
  rw [← qa11]
  clear qa11 e10_0 e10_1 e10_2 e10_3 e10_17 e10_24
  clear e11_17
  clear e11_24
  refine Ev.pv (N := 26) (v := .bool false) (W' := W) ?_ rfl rfl ?_
  · unfold execOp
    generalize a11.eval = ev at *
    go_simp
  obtain ⟨a12, qa12⟩ : ∃ z_, z_ = a11.put (some 26) (.bool false) := ⟨_, rfl⟩
  have k12 : Ev.Stay [15, 16, 17, 18, 19, 20, 21, 22, 23, 24, 25, 26, 27, 28, 29, 30, 31, 32, 33, 34, 35, 36, 37, 38, 39, 40, 41, 42, 43, 44, 45, 46, 47] a a12 := by rw [qa12]; exact k11.put (by decide) _
  have e12_0 := Ev.oth qa12 (by decide) e11_0
  have e12_1 := Ev.oth qa12 (by decide) e11_1
  have e12_2 := Ev.oth qa12 (by decide) e11_2
  have e12_3 := Ev.oth qa12 (by decide) e11_3
  have e12_25 := Ev.oth qa12 (by decide) e11_25
  have e12_26 := Ev.sam qa12 (by rw [k11.1, hsz]; decide)
  rw [← qa12]
  clear qa12 e11_0 e11_1 e11_2 e11_3 e11_25
  clear e12_25
  refine Ev.pvG (N := 27) (v := .int .i64 (p)) (W' := W) ?_ (Ev.wantedG rfl (Rg.of hops (Rg.atS (Rg.atS (Rg.atS (Rg.atS (Rg.atS (Rg.atS (Rg.atS (Rg.atS (Rg.atS (Rg.atS (Rg.atS Rg.at0)))))))))))) rfl e12_26) rfl ?_
  · unfold execOp
    generalize a12.eval = ev at *
    go_simp
  obtain ⟨a13, qa13⟩ : ∃ z_, z_ = a12.put (some 27) (.int .i64 (p)) := ⟨_, rfl⟩
  have k13 : Ev.Stay [15, 16, 17, 18, 19, 20, 21, 22, 23, 24, 25, 26, 27, 28, 29, 30, 31, 32, 33, 34, 35, 36, 37, 38, 39, 40, 41, 42, 43, 44, 45, 46, 47] a a13 := by rw [qa13]; exact k12.put (by decide) _
  have e13_0 := Ev.oth qa13 (by decide) e12_0
  have e13_1 := Ev.oth qa13 (by decide) e12_1
  have e13_2 := Ev.oth qa13 (by decide) e12_2
  have e13_3 := Ev.oth qa13 (by decide) e12_3
  have e13_26 := Ev.oth qa13 (by decide) e12_26
  have e13_27 := Ev.sam qa13 (by rw [k12.1, hsz]; decide)
  rw [← qa13]
  clear qa13 e12_0 e12_1 e12_2 e12_3 e12_26
  refine Ev.pvG (N := 28) (v := .bool false) (W' := W) ?_ (Ev.wantedG rfl (Rg.of hops (Rg.atS (Rg.atS (Rg.atS (Rg.atS (Rg.atS (Rg.atS (Rg.atS (Rg.atS (Rg.atS (Rg.atS (Rg.atS Rg.at0)))))))))))) rfl e13_26) rfl ?_
  · have ec0 : a13.eval (.const (.int .i64 (0))) = .int .i64 (0) := rfl
    have f_ : decide (p < 0) = false := by simpa using b2
    have f2_ := b2
    unfold execOp
    generalize a13.eval = ev at *
    go_simp
  obtain ⟨a14, qa14⟩ : ∃ z_, z_ = a13.put (some 28) (.bool false) := ⟨_, rfl⟩
  have k14 : Ev.Stay [15, 16, 17, 18, 19, 20, 21, 22, 23, 24, 25, 26, 27, 28, 29, 30, 31, 32, 33, 34, 35, 36, 37, 38, 39, 40, 41, 42, 43, 44, 45, 46, 47] a a14 := by rw [qa14]; exact k13.put (by decide) _
  have e14_0 := Ev.oth qa14 (by decide) e13_0
  have e14_1 := Ev.oth qa14 (by decide) e13_1
  have e14_2 := Ev.oth qa14 (by decide) e13_2
  have e14_3 := Ev.oth qa14 (by decide) e13_3
  have e14_26 := Ev.oth qa14 (by decide) e13_26
  have e14_27 := Ev.oth qa14 (by decide) e13_27
  have e14_28 := Ev.sam qa14 (by rw [k13.1, hsz]; decide)
  rw [← qa14]
  clear qa14 e13_0 e13_1 e13_2 e13_3 e13_26 e13_27
  clear e14_27
  refine Ev.pv (N := 29) (v := .bool false) (W' := W) ?_ rfl rfl ?_
  · have ec0 : a14.eval (.const (.bool true)) = .bool true := rfl
    unfold execOp
    generalize a14.eval = ev at *
    go_simp
  obtain ⟨a15, qa15⟩ : ∃ z_, z_ = a14.put (some 29) (.bool false) := ⟨_, rfl⟩
  have k15 : Ev.Stay [15, 16, 17, 18, 19, 20, 21, 22, 23, 24, 25, 26, 27, 28, 29, 30, 31, 32, 33, 34, 35, 36, 37, 38, 39, 40, 41, 42, 43, 44, 45, 46, 47] a a15 := by rw [qa15]; exact k14.put (by decide) _
  have e15_0 := Ev.oth qa15 (by decide) e14_0
  have e15_1 := Ev.oth qa15 (by decide) e14_1
  have e15_2 := Ev.oth qa15 (by decide) e14_2
  have e15_3 := Ev.oth qa15 (by decide) e14_3
  have e15_26 := Ev.oth qa15 (by decide) e14_26
  have e15_28 := Ev.oth qa15 (by decide) e14_28
  have e15_29 := Ev.sam qa15 (by rw [k14.1, hsz]; decide)
  rw [← qa15]
  clear qa15 e14_0 e14_1 e14_2 e14_3 e14_26 e14_28
  clear e15_26
  clear e15_28
  refine Ev.pv (N := 30) (v := .bool false) (W' := W) ?_ rfl rfl ?_
  · unfold execOp
    generalize a15.eval = ev at *
    go_simp
  obtain ⟨a16, qa16⟩ : ∃ z_, z_ = a15.put (some 30) (.bool false) := ⟨_, rfl⟩
  have k16 : Ev.Stay [15, 16, 17, 18, 19, 20, 21, 22, 23, 24, 25, 26, 27, 28, 29, 30, 31, 32, 33, 34, 35, 36, 37, 38, 39, 40, 41, 42, 43, 44, 45, 46, 47] a a16 := by rw [qa16]; exact k15.put (by decide) _
  have e16_0 := Ev.oth qa16 (by decide) e15_0
  have e16_1 := Ev.oth qa16 (by decide) e15_1
  have e16_2 := Ev.oth qa16 (by decide) e15_2
  have e16_3 := Ev.oth qa16 (by decide) e15_3
  have e16_29 := Ev.oth qa16 (by decide) e15_29
  have e16_30 := Ev.sam qa16 (by rw [k15.1, hsz]; decide)
  rw [← qa16]
  clear qa16 e15_0 e15_1 e15_2 e15_3 e15_29
  clear e16_29
  refine Ev.pvG (N := 31) (v := .int .i64 (p)) (W' := W) ?_ (Ev.wantedG rfl (Rg.of hops (Rg.atS (Rg.atS (Rg.atS (Rg.atS (Rg.atS (Rg.atS (Rg.atS (Rg.atS (Rg.atS (Rg.atS (Rg.atS (Rg.atS (Rg.atS (Rg.atS (Rg.atS Rg.at0)))))))))))))))) rfl e16_30) rfl ?_
  · unfold execOp
    generalize a16.eval = ev at *
    go_simp
  obtain ⟨a17, qa17⟩ : ∃ z_, z_ = a16.put (some 31) (.int .i64 (p)) := ⟨_, rfl⟩
  have k17 : Ev.Stay [15, 16, 17, 18, 19, 20, 21, 22, 23, 24, 25, 26, 27, 28, 29, 30, 31, 32, 33, 34, 35, 36, 37, 38, 39, 40, 41, 42, 43, 44, 45, 46, 47] a a17 := by rw [qa17]; exact k16.put (by decide) _
  have e17_0 := Ev.oth qa17 (by decide) e16_0
  have e17_1 := Ev.oth qa17 (by decide) e16_1
  have e17_2 := Ev.oth qa17 (by decide) e16_2
  have e17_3 := Ev.oth qa17 (by decide) e16_3
  have e17_30 := Ev.oth qa17 (by decide) e16_30
  have e17_31 := Ev.sam qa17 (by rw [k16.1, hsz]; decide)
  rw [← qa17]
  clear qa17 e16_0 e16_1 e16_2 e16_3 e16_30
  refine Ev.pvG (N := 32) (v := .int .i64 (t : Int)) (W' := W) ?_ (Ev.wantedG rfl (Rg.of hops (Rg.atS (Rg.atS (Rg.atS (Rg.atS (Rg.atS (Rg.atS (Rg.atS (Rg.atS (Rg.atS (Rg.atS (Rg.atS (Rg.atS (Rg.atS (Rg.atS (Rg.atS Rg.at0)))))))))))))))) rfl e17_30) rfl ?_
  · unfold execOp
    generalize a17.eval = ev at *
    go_simp
  obtain ⟨a18, qa18⟩ : ∃ z_, z_ = a17.put (some 32) (.int .i64 (t : Int)) := ⟨_, rfl⟩
  have k18 : Ev.Stay [15, 16, 17, 18, 19, 20, 21, 22, 23, 24, 25, 26, 27, 28, 29, 30, 31, 32, 33, 34, 35, 36, 37, 38, 39, 40, 41, 42, 43, 44, 45, 46, 47] a a18 := by rw [qa18]; exact k17.put (by decide) _
  have e18_0 := Ev.oth qa18 (by decide) e17_0
  have e18_1 := Ev.oth qa18 (by decide) e17_1
  have e18_2 := Ev.oth qa18 (by decide) e17_2
  have e18_3 := Ev.oth qa18 (by decide) e17_3
  have e18_30 := Ev.oth qa18 (by decide) e17_30
  have e18_31 := Ev.oth qa18 (by decide) e17_31
  have e18_32 := Ev.sam qa18 (by rw [k17.1, hsz]; decide)
  rw [← qa18]
  clear qa18 e17_0 e17_1 e17_2 e17_3 e17_30 e17_31
  refine Ev.pvG (N := 33) (v := .int .u64 (t : Int)) (W' := W) ?_ (Ev.wantedG rfl (Rg.of hops (Rg.atS (Rg.atS (Rg.atS (Rg.atS (Rg.atS (Rg.atS (Rg.atS (Rg.atS (Rg.atS (Rg.atS (Rg.atS (Rg.atS (Rg.atS (Rg.atS (Rg.atS Rg.at0)))))))))))))))) rfl e18_30) rfl ?_
  · have u_ : IntKind.u64.wrap (t : Int) = (t : Int) := wu (by omega) (by omega)
    unfold execOp
    generalize a18.eval = ev at *
    go_simp
  obtain ⟨a19, qa19⟩ : ∃ z_, z_ = a18.put (some 33) (.int .u64 (t : Int)) := ⟨_, rfl⟩
  have k19 : Ev.Stay [15, 16, 17, 18, 19, 20, 21, 22, 23, 24, 25, 26, 27, 28, 29, 30, 31, 32, 33, 34, 35, 36, 37, 38, 39, 40, 41, 42, 43, 44, 45, 46, 47] a a19 := by rw [qa19]; exact k18.put (by decide) _
  have e19_0 := Ev.oth qa19 (by decide) e18_0
  have e19_1 := Ev.oth qa19 (by decide) e18_1
  have e19_2 := Ev.oth qa19 (by decide) e18_2
  have e19_3 := Ev.oth qa19 (by decide) e18_3
  have e19_30 := Ev.oth qa19 (by decide) e18_30
  have e19_31 := Ev.oth qa19 (by decide) e18_31
  have e19_32 := Ev.oth qa19 (by decide) e18_32
  have e19_33 := Ev.sam qa19 (by rw [k18.1, hsz]; decide)
  rw [← qa19]
  clear qa19 e18_0 e18_1 e18_2 e18_3 e18_30 e18_31 e18_32
  clear e19_32
  refine Ev.pvG (N := 34) (v := .int .i64 ((2 ^ t : Nat) : Int)) (W' := W) ?_ (Ev.wantedG rfl (Rg.of hops (Rg.atS (Rg.atS (Rg.atS (Rg.atS (Rg.atS (Rg.atS (Rg.atS (Rg.atS (Rg.atS (Rg.atS (Rg.atS (Rg.atS (Rg.atS (Rg.atS (Rg.atS Rg.at0)))))))))))))))) rfl e19_30) rfl ?_
  · have ec0 : a19.eval (.const (.int .i64 (1))) = .int .i64 (1) := rfl
    have l0_ : (0 : Int) ≤ (t : Int) := by omega
    have mn_ : min t 64 = t := by omega
    have hp_ := pow_t ht
    unfold execOp
    generalize a19.eval = ev at *
    (go_simp; try exact hp_)
  obtain ⟨a20, qa20⟩ : ∃ z_, z_ = a19.put (some 34) (.int .i64 ((2 ^ t : Nat) : Int)) := ⟨_, rfl⟩
  have k20 : Ev.Stay [15, 16, 17, 18, 19, 20, 21, 22, 23, 24, 25, 26, 27, 28, 29, 30, 31, 32, 33, 34, 35, 36, 37, 38, 39, 40, 41, 42, 43, 44, 45, 46, 47] a a20 := by rw [qa20]; exact k19.put (by decide) _
  have e20_0 := Ev.oth qa20 (by decide) e19_0
  have e20_1 := Ev.oth qa20 (by decide) e19_1
  have e20_2 := Ev.oth qa20 (by decide) e19_2
  have e20_3 := Ev.oth qa20 (by decide) e19_3
  have e20_30 := Ev.oth qa20 (by decide) e19_30
  have e20_31 := Ev.oth qa20 (by decide) e19_31
  have e20_33 := Ev.oth qa20 (by decide) e19_33
  have e20_34 := Ev.sam qa20 (by rw [k19.1, hsz]; decide)
  rw [← qa20]
  clear qa20 e19_0 e19_1 e19_2 e19_3 e19_30 e19_31 e19_33
  clear e20_33
  refine Ev.pvG (N := 35) (v := .bool false) (W' := W) ?_ (Ev.wantedG rfl (Rg.of hops (Rg.atS (Rg.atS (Rg.atS (Rg.atS (Rg.atS (Rg.atS (Rg.atS (Rg.atS (Rg.atS (Rg.atS (Rg.atS (Rg.atS (Rg.atS (Rg.atS (Rg.atS Rg.at0)))))))))))))))) rfl e20_30) rfl ?_
  · have f_ : decide (((2 ^ t : Nat) : Int) ≤ p) = false := by simpa using b3
    have f2_ := b3
    unfold execOp
    generalize a20.eval = ev at *
    (go_simp; try (first | exact b3 | (simp at f2_ ⊢; omega) | simpa using f2_))
  obtain ⟨a21, qa21⟩ : ∃ z_, z_ = a20.put (some 35) (.bool false) := ⟨_, rfl⟩
  have k21 : Ev.Stay [15, 16, 17, 18, 19, 20, 21, 22, 23, 24, 25, 26, 27, 28, 29, 30, 31, 32, 33, 34, 35, 36, 37, 38, 39, 40, 41, 42, 43, 44, 45, 46, 47] a a21 := by rw [qa21]; exact k20.put (by decide) _
  have e21_0 := Ev.oth qa21 (by decide) e20_0
  have e21_1 := Ev.oth qa21 (by decide) e20_1
  have e21_2 := Ev.oth qa21 (by decide) e20_2
  have e21_3 := Ev.oth qa21 (by decide) e20_3
  have e21_30 := Ev.oth qa21 (by decide) e20_30
  have e21_31 := Ev.oth qa21 (by decide) e20_31
  have e21_34 := Ev.oth qa21 (by decide) e20_34
  have e21_35 := Ev.sam qa21 (by rw [k20.1, hsz]; decide)
  rw [← qa21]
  clear qa21 e20_0 e20_1 e20_2 e20_3 e20_30 e20_31 e20_34
  clear e21_31
  clear e21_34
  refine Ev.pv (N := 36) (v := .bool false) (W' := W) ?_ rfl rfl ?_
  · have ec0 : a21.eval (.const (.bool true)) = .bool true := rfl
    unfold execOp
    generalize a21.eval = ev at *
    go_simp
  obtain ⟨a22, qa22⟩ : ∃ z_, z_ = a21.put (some 36) (.bool false) := ⟨_, rfl⟩
  have k22 : Ev.Stay [15, 16, 17, 18, 19, 20, 21, 22, 23, 24, 25, 26, 27, 28, 29, 30, 31, 32, 33, 34, 35, 36, 37, 38, 39, 40, 41, 42, 43, 44, 45, 46, 47] a a22 := by rw [qa22]; exact k21.put (by decide) _
  have e22_0 := Ev.oth qa22 (by decide) e21_0
  have e22_1 := Ev.oth qa22 (by decide) e21_1
  have e22_2 := Ev.oth qa22 (by decide) e21_2
  have e22_3 := Ev.oth qa22 (by decide) e21_3
  have e22_30 := Ev.oth qa22 (by decide) e21_30
  have e22_35 := Ev.oth qa22 (by decide) e21_35
  have e22_36 := Ev.sam qa22 (by rw [k21.1, hsz]; decide)
  rw [← qa22]
  clear qa22 e21_0 e21_1 e21_2 e21_3 e21_30 e21_35
  clear e22_30
  clear e22_35
  refine Ev.pv (N := 37) (v := .bool false) (W' := W) ?_ rfl rfl ?_
  · unfold execOp
    generalize a22.eval = ev at *
    go_simp
  obtain ⟨a23, qa23⟩ : ∃ z_, z_ = a22.put (some 37) (.bool false) := ⟨_, rfl⟩
  have k23 : Ev.Stay [15, 16, 17, 18, 19, 20, 21, 22, 23, 24, 25, 26, 27, 28, 29, 30, 31, 32, 33, 34, 35, 36, 37, 38, 39, 40, 41, 42, 43, 44, 45, 46, 47] a a23 := by rw [qa23]; exact k22.put (by decide) _
  have e23_0 := Ev.oth qa23 (by decide) e22_0
  have e23_1 := Ev.oth qa23 (by decide) e22_1
  have e23_2 := Ev.oth qa23 (by decide) e22_2
  have e23_3 := Ev.oth qa23 (by decide) e22_3
  have e23_36 := Ev.oth qa23 (by decide) e22_36
  have e23_37 := Ev.sam qa23 (by rw [k22.1, hsz]; decide)
  rw [← qa23]
  clear qa23 e22_0 e22_1 e22_2 e22_3 e22_36
  clear e23_36
  refine Ev.pvG (N := 38) (v := .int .i64 (l)) (W' := W) ?_ (Ev.wantedG rfl (Rg.of hops (Rg.atS (Rg.atS (Rg.atS (Rg.atS (Rg.atS (Rg.atS (Rg.atS (Rg.atS (Rg.atS (Rg.atS (Rg.atS (Rg.atS (Rg.atS (Rg.atS (Rg.atS (Rg.atS (Rg.atS (Rg.atS (Rg.atS (Rg.atS (Rg.atS (Rg.atS Rg.at0))))))))))))))))))))))) rfl e23_37) rfl ?_
  · unfold execOp
    generalize a23.eval = ev at *
    go_simp
  obtain ⟨a24, qa24⟩ : ∃ z_, z_ = a23.put (some 38) (.int .i64 (l)) := ⟨_, rfl⟩
  have k24 : Ev.Stay [15, 16, 17, 18, 19, 20, 21, 22, 23, 24, 25, 26, 27, 28, 29, 30, 31, 32, 33, 34, 35, 36, 37, 38, 39, 40, 41, 42, 43, 44, 45, 46, 47] a a24 := by rw [qa24]; exact k23.put (by decide) _
  have e24_0 := Ev.oth qa24 (by decide) e23_0
  have e24_1 := Ev.oth qa24 (by decide) e23_1
  have e24_2 := Ev.oth qa24 (by decide) e23_2
  have e24_3 := Ev.oth qa24 (by decide) e23_3
  have e24_37 := Ev.oth qa24 (by decide) e23_37
  have e24_38 := Ev.sam qa24 (by rw [k23.1, hsz]; decide)
  rw [← qa24]
  clear qa24 e23_0 e23_1 e23_2 e23_3 e23_37
  refine Ev.pvG (N := 39) (v := .bool false) (W' := W) ?_ (Ev.wantedG rfl (Rg.of hops (Rg.atS (Rg.atS (Rg.atS (Rg.atS (Rg.atS (Rg.atS (Rg.atS (Rg.atS (Rg.atS (Rg.atS (Rg.atS (Rg.atS (Rg.atS (Rg.atS (Rg.atS (Rg.atS (Rg.atS (Rg.atS (Rg.atS (Rg.atS (Rg.atS (Rg.atS Rg.at0))))))))))))))))))))))) rfl e24_37) rfl ?_
  · have ec0 : a24.eval (.const (.int .i64 (0))) = .int .i64 (0) := rfl
    have f_ : decide (l < 0) = false := by simpa using b4
    have f2_ := b4
    unfold execOp
    generalize a24.eval = ev at *
    go_simp
  obtain ⟨a25, qa25⟩ : ∃ z_, z_ = a24.put (some 39) (.bool false) := ⟨_, rfl⟩
  have k25 : Ev.Stay [15, 16, 17, 18, 19, 20, 21, 22, 23, 24, 25, 26, 27, 28, 29, 30, 31, 32, 33, 34, 35, 36, 37, 38, 39, 40, 41, 42, 43, 44, 45, 46, 47] a a25 := by rw [qa25]; exact k24.put (by decide) _
  have e25_0 := Ev.oth qa25 (by decide) e24_0
  have e25_1 := Ev.oth qa25 (by decide) e24_1
  have e25_2 := Ev.oth qa25 (by decide) e24_2
  have e25_3 := Ev.oth qa25 (by decide) e24_3
  have e25_37 := Ev.oth qa25 (by decide) e24_37
  have e25_38 := Ev.oth qa25 (by decide) e24_38
  have e25_39 := Ev.sam qa25 (by rw [k24.1, hsz]; decide)
  rw [← qa25]
  clear qa25 e24_0 e24_1 e24_2 e24_3 e24_37 e24_38
  clear e25_38
  refine Ev.pv (N := 40) (v := .bool false) (W' := W) ?_ rfl rfl ?_
  · have ec0 : a25.eval (.const (.bool true)) = .bool true := rfl
    unfold execOp
    generalize a25.eval = ev at *
    go_simp
  obtain ⟨a26, qa26⟩ : ∃ z_, z_ = a25.put (some 40) (.bool false) := ⟨_, rfl⟩
  have k26 : Ev.Stay [15, 16, 17, 18, 19, 20, 21, 22, 23, 24, 25, 26, 27, 28, 29, 30, 31, 32, 33, 34, 35, 36, 37, 38, 39, 40, 41, 42, 43, 44, 45, 46, 47] a a26 := by rw [qa26]; exact k25.put (by decide) _
  have e26_0 := Ev.oth qa26 (by decide) e25_0
  have e26_1 := Ev.oth qa26 (by decide) e25_1
  have e26_2 := Ev.oth qa26 (by decide) e25_2
  have e26_3 := Ev.oth qa26 (by decide) e25_3
  have e26_37 := Ev.oth qa26 (by decide) e25_37
  have e26_39 := Ev.oth qa26 (by decide) e25_39
  have e26_40 := Ev.sam qa26 (by rw [k25.1, hsz]; decide)
  rw [← qa26]
  clear qa26 e25_0 e25_1 e25_2 e25_3 e25_37 e25_39
  clear e26_37
  clear e26_39
  refine Ev.pv (N := 41) (v := .bool false) (W' := W) ?_ rfl rfl ?_
  · unfold execOp
    generalize a26.eval = ev at *
    go_simp
  obtain ⟨a27, qa27⟩ : ∃ z_, z_ = a26.put (some 41) (.bool false) := ⟨_, rfl⟩
  have k27 : Ev.Stay [15, 16, 17, 18, 19, 20, 21, 22, 23, 24, 25, 26, 27, 28, 29, 30, 31, 32, 33, 34, 35, 36, 37, 38, 39, 40, 41, 42, 43, 44, 45, 46, 47] a a27 := by rw [qa27]; exact k26.put (by decide) _
  have e27_0 := Ev.oth qa27 (by decide) e26_0
  have e27_1 := Ev.oth qa27 (by decide) e26_1
  have e27_2 := Ev.oth qa27 (by decide) e26_2
  have e27_3 := Ev.oth qa27 (by decide) e26_3
  have e27_40 := Ev.oth qa27 (by decide) e26_40
  have e27_41 := Ev.sam qa27 (by rw [k26.1, hsz]; decide)
  rw [← qa27]
  clear qa27 e26_0 e26_1 e26_2 e26_3 e26_40
  clear e27_40
  refine Ev.pvG (N := 42) (v := .int .i64 (l)) (W' := W) ?_ (Ev.wantedG rfl (Rg.of hops (Rg.atS (Rg.atS (Rg.atS (Rg.atS (Rg.atS (Rg.atS (Rg.atS (Rg.atS (Rg.atS (Rg.atS (Rg.atS (Rg.atS (Rg.atS (Rg.atS (Rg.atS (Rg.atS (Rg.atS (Rg.atS (Rg.atS (Rg.atS (Rg.atS (Rg.atS (Rg.atS (Rg.atS (Rg.atS (Rg.atS Rg.at0))))))))))))))))))))))))))) rfl e27_41) rfl ?_
  · unfold execOp
    generalize a27.eval = ev at *
    go_simp
  obtain ⟨a28, qa28⟩ : ∃ z_, z_ = a27.put (some 42) (.int .i64 (l)) := ⟨_, rfl⟩
  have k28 : Ev.Stay [15, 16, 17, 18, 19, 20, 21, 22, 23, 24, 25, 26, 27, 28, 29, 30, 31, 32, 33, 34, 35, 36, 37, 38, 39, 40, 41, 42, 43, 44, 45, 46, 47] a a28 := by rw [qa28]; exact k27.put (by decide) _
  have e28_0 := Ev.oth qa28 (by decide) e27_0
  have e28_1 := Ev.oth qa28 (by decide) e27_1
  have e28_2 := Ev.oth qa28 (by decide) e27_2
  have e28_3 := Ev.oth qa28 (by decide) e27_3
  have e28_41 := Ev.oth qa28 (by decide) e27_41
  have e28_42 := Ev.sam qa28 (by rw [k27.1, hsz]; decide)
  rw [← qa28]
  clear qa28 e27_0 e27_1 e27_2 e27_3 e27_41
  refine Ev.pvG (N := 43) (v := .int .i64 (t : Int)) (W' := W) ?_ (Ev.wantedG rfl (Rg.of hops (Rg.atS (Rg.atS (Rg.atS (Rg.atS (Rg.atS (Rg.atS (Rg.atS (Rg.atS (Rg.atS (Rg.atS (Rg.atS (Rg.atS (Rg.atS (Rg.atS (Rg.atS (Rg.atS (Rg.atS (Rg.atS (Rg.atS (Rg.atS (Rg.atS (Rg.atS (Rg.atS (Rg.atS (Rg.atS (Rg.atS Rg.at0))))))))))))))))))))))))))) rfl e28_41) rfl ?_
  · unfold execOp
    generalize a28.eval = ev at *
    go_simp
  obtain ⟨a29, qa29⟩ : ∃ z_, z_ = a28.put (some 43) (.int .i64 (t : Int)) := ⟨_, rfl⟩
  have k29 : Ev.Stay [15, 16, 17, 18, 19, 20, 21, 22, 23, 24, 25, 26, 27, 28, 29, 30, 31, 32, 33, 34, 35, 36, 37, 38, 39, 40, 41, 42, 43, 44, 45, 46, 47] a a29 := by rw [qa29]; exact k28.put (by decide) _
  have e29_0 := Ev.oth qa29 (by decide) e28_0
  have e29_1 := Ev.oth qa29 (by decide) e28_1
  have e29_2 := Ev.oth qa29 (by decide) e28_2
  have e29_3 := Ev.oth qa29 (by decide) e28_3
  have e29_41 := Ev.oth qa29 (by decide) e28_41
  have e29_42 := Ev.oth qa29 (by decide) e28_42
  have e29_43 := Ev.sam qa29 (by rw [k28.1, hsz]; decide)
  rw [← qa29]
  clear qa29 e28_0 e28_1 e28_2 e28_3 e28_41 e28_42
  refine Ev.pvG (N := 44) (v := .int .u64 (t : Int)) (W' := W) ?_ (Ev.wantedG rfl (Rg.of hops (Rg.atS (Rg.atS (Rg.atS (Rg.atS (Rg.atS (Rg.atS (Rg.atS (Rg.atS (Rg.atS (Rg.atS (Rg.atS (Rg.atS (Rg.atS (Rg.atS (Rg.atS (Rg.atS (Rg.atS (Rg.atS (Rg.atS (Rg.atS (Rg.atS (Rg.atS (Rg.atS (Rg.atS (Rg.atS (Rg.atS Rg.at0))))))))))))))))))))))))))) rfl e29_41) rfl ?_
  · have u_ : IntKind.u64.wrap (t : Int) = (t : Int) := wu (by omega) (by omega)
    unfold execOp
    generalize a29.eval = ev at *
    go_simp
  obtain ⟨a30, qa30⟩ : ∃ z_, z_ = a29.put (some 44) (.int .u64 (t : Int)) := ⟨_, rfl⟩
  have k30 : Ev.Stay [15, 16, 17, 18, 19, 20, 21, 22, 23, 24, 25, 26, 27, 28, 29, 30, 31, 32, 33, 34, 35, 36, 37, 38, 39, 40, 41, 42, 43, 44, 45, 46, 47] a a30 := by rw [qa30]; exact k29.put (by decide) _
  have e30_0 := Ev.oth qa30 (by decide) e29_0
  have e30_1 := Ev.oth qa30 (by decide) e29_1
  have e30_2 := Ev.oth qa30 (by decide) e29_2
  have e30_3 := Ev.oth qa30 (by decide) e29_3
  have e30_41 := Ev.oth qa30 (by decide) e29_41
  have e30_42 := Ev.oth qa30 (by decide) e29_42
  have e30_43 := Ev.oth qa30 (by decide) e29_43
  have e30_44 := Ev.sam qa30 (by rw [k29.1, hsz]; decide)
  rw [← qa30]
  clear qa30 e29_0 e29_1 e29_2 e29_3 e29_41 e29_42 e29_43
  clear e30_43
  refine Ev.pvG (N := 45) (v := .int .i64 ((2 ^ t : Nat) : Int)) (W' := W) ?_ (Ev.wantedG rfl (Rg.of hops (Rg.atS (Rg.atS (Rg.atS (Rg.atS (Rg.atS (Rg.atS (Rg.atS (Rg.atS (Rg.atS (Rg.atS (Rg.atS (Rg.atS (Rg.atS (Rg.atS (Rg.atS (Rg.atS (Rg.atS (Rg.atS (Rg.atS (Rg.atS (Rg.atS (Rg.atS (Rg.atS (Rg.atS (Rg.atS (Rg.atS Rg.at0))))))))))))))))))))))))))) rfl e30_41) rfl ?_
  · have ec0 : a30.eval (.const (.int .i64 (1))) = .int .i64 (1) := rfl
    have l0_ : (0 : Int) ≤ (t : Int) := by omega
    have mn_ : min t 64 = t := by omega
    have hp_ := pow_t ht
    unfold execOp
    generalize a30.eval = ev at *
    (go_simp; try exact hp_)
  obtain ⟨a31, qa31⟩ : ∃ z_, z_ = a30.put (some 45) (.int .i64 ((2 ^ t : Nat) : Int)) := ⟨_, rfl⟩
  have k31 : Ev.Stay [15, 16, 17, 18, 19, 20, 21, 22, 23, 24, 25, 26, 27, 28, 29, 30, 31, 32, 33, 34, 35, 36, 37, 38, 39, 40, 41, 42, 43, 44, 45, 46, 47] a a31 := by rw [qa31]; exact k30.put (by decide) _
  have e31_0 := Ev.oth qa31 (by decide) e30_0
  have e31_1 := Ev.oth qa31 (by decide) e30_1
  have e31_2 := Ev.oth qa31 (by decide) e30_2
  have e31_3 := Ev.oth qa31 (by decide) e30_3
  have e31_41 := Ev.oth qa31 (by decide) e30_41
  have e31_42 := Ev.oth qa31 (by decide) e30_42
  have e31_44 := Ev.oth qa31 (by decide) e30_44
  have e31_45 := Ev.sam qa31 (by rw [k30.1, hsz]; decide)
  rw [← qa31]
  clear qa31 e30_0 e30_1 e30_2 e30_3 e30_41 e30_42 e30_44
  clear e31_44
  refine Ev.pvG (N := 46) (v := .bool false) (W' := W) ?_ (Ev.wantedG rfl (Rg.of hops (Rg.atS (Rg.atS (Rg.atS (Rg.atS (Rg.atS (Rg.atS (Rg.atS (Rg.atS (Rg.atS (Rg.atS (Rg.atS (Rg.atS (Rg.atS (Rg.atS (Rg.atS (Rg.atS (Rg.atS (Rg.atS (Rg.atS (Rg.atS (Rg.atS (Rg.atS (Rg.atS (Rg.atS (Rg.atS (Rg.atS Rg.at0))))))))))))))))))))))))))) rfl e31_41) rfl ?_
  · have f_ : decide (((2 ^ t : Nat) : Int) ≤ l) = false := by simpa using b5
    have f2_ := b5
    unfold execOp
    generalize a31.eval = ev at *
    (go_simp; try (first | exact b5 | (simp at f2_ ⊢; omega) | simpa using f2_))
  obtain ⟨a32, qa32⟩ : ∃ z_, z_ = a31.put (some 46) (.bool false) := ⟨_, rfl⟩
  have k32 : Ev.Stay [15, 16, 17, 18, 19, 20, 21, 22, 23, 24, 25, 26, 27, 28, 29, 30, 31, 32, 33, 34, 35, 36, 37, 38, 39, 40, 41, 42, 43, 44, 45, 46, 47] a a32 := by rw [qa32]; exact k31.put (by decide) _
  have e32_0 := Ev.oth qa32 (by decide) e31_0
  have e32_1 := Ev.oth qa32 (by decide) e31_1
  have e32_2 := Ev.oth qa32 (by decide) e31_2
  have e32_3 := Ev.oth qa32 (by decide) e31_3
  have e32_41 := Ev.oth qa32 (by decide) e31_41
  have e32_42 := Ev.oth qa32 (by decide) e31_42
  have e32_45 := Ev.oth qa32 (by decide) e31_45
  have e32_46 := Ev.sam qa32 (by rw [k31.1, hsz]; decide)
  rw [← qa32]
  clear qa32 e31_0 e31_1 e31_2 e31_3 e31_41 e31_42 e31_45
  clear e32_42
  clear e32_45
  refine Ev.pv (N := 47) (v := .bool false) (W' := W) ?_ rfl rfl ?_
  · have ec0 : a32.eval (.const (.bool true)) = .bool true := rfl
    unfold execOp
    generalize a32.eval = ev at *
    go_simp
  obtain ⟨a33, qa33⟩ : ∃ z_, z_ = a32.put (some 47) (.bool false) := ⟨_, rfl⟩
  have k33 : Ev.Stay [15, 16, 17, 18, 19, 20, 21, 22, 23, 24, 25, 26, 27, 28, 29, 30, 31, 32, 33, 34, 35, 36, 37, 38, 39, 40, 41, 42, 43, 44, 45, 46, 47] a a33 := by rw [qa33]; exact k32.put (by decide) _
  have e33_0 := Ev.oth qa33 (by decide) e32_0
  have e33_1 := Ev.oth qa33 (by decide) e32_1
  have e33_2 := Ev.oth qa33 (by decide) e32_2
  have e33_3 := Ev.oth qa33 (by decide) e32_3
  have e33_41 := Ev.oth qa33 (by decide) e32_41
  have e33_46 := Ev.oth qa33 (by decide) e32_46
  have e33_47 := Ev.sam qa33 (by rw [k32.1, hsz]; decide)
  rw [← qa33]
  clear qa33 e32_0 e32_1 e32_2 e32_3 e32_41 e32_46
  clear e33_41
  clear e33_46
  exact hQ _ k33 e33_47

theorem refSize {t : Nat} (ht : 1 ≤ t ∧ t ≤ 3) (w : World) : Calls Try.prog 15 #[.int .i64 (t : Int)] w fun e w' => e = .returned (.int .i64 ((2 ^ (t * t + 2 * t) : Nat) : Int)) ∧ w = w' := by
  have e : t = 1 ∨ t = 2 ∨ t = 3 := by omega
  rcases e with rfl | rfl | rfl
  all_goals
    go_enter Try.func15, Try.ntmps15
    go_wp2
    go_ret
    exact ⟨rfl, rfl⟩
structure Lf.St (t go : Nat) (q p l : Int) (a : Act) : Prop where
  sz : a.tmps.size = 104
  e0 : a.eval (.tmp 0) = .int .i64 (t : Int)
  e11 : a.eval (.tmp 11) = .slice (some ⟨go, 0, none⟩) (t + 1) (t + 1)
theorem Lf.St.of {t go : Nat} {q p l : Int} {a a' : Act} {L : List Nat} (h : Lf.St t go q p l a) (k : Ev.Stay L a a') (hn : (decide (0 ∉ L) && decide (11 ∉ L)) = true) : Lf.St t go q p l a' := by
  simp only [Bool.and_eq_true, decide_eq_true_eq] at hn
  exact ⟨k.1.trans h.sz, (k.2.2 0 hn.1).trans h.e0, (k.2.2 11 hn.2).trans h.e11⟩
noncomputable def Lf.R (k : Nat) : Code := .region k (Rf.ops 13 k) false
noncomputable def Lf.D (k : Nat) : Code := .region k (Rf.ops 13 k) true
noncomputable def Lf.body : Code := .seq (.seq (Lf.R 6) (.cond (.tmp 55) .skip (.exit 0))) (.seq (.block 1 (.seq (Lf.D 8) (Lf.D 9))) (Lf.R 7))
noncomputable def Lf.code : Code := .seq (Lf.R 0) (.seq (.seq (Lf.R 1) (.cond (.tmp 47) (.seq (Lf.R 2) .ret) .skip)) (.seq (Lf.R 3) (.seq (Lf.R 4) (.seq (.seq (Lf.R 5) (.block 0 (.loop Lf.body))) (.seq (Lf.R 10) .ret)))))
def Lf.L : List Nat := 12 :: 13 :: 14 :: List.range' 53 49
theorem Lf.add {x d : Int} {k : Nat} (hk : k < 3) (h0 : 0 ≤ x) (h1 : x < 2 ^ k) (hd : 0 ≤ d ∧ d ≤ 1) : IntKind.i64.wrap d = d ∧ IntKind.i64.wrap (d * 2 ^ k) = d * 2 ^ k ∧ IntKind.i64.wrap (x + d * 2 ^ k) = x + d * 2 ^ k := by
  have e : k = 0 ∨ k = 1 ∨ k = 2 := by omega
  rcases e with rfl | rfl | rfl
  · refine ⟨wr (by omega) (by omega), wr (by omega) (by omega), wr (by omega) (by omega)⟩
  · refine ⟨wr (by omega) (by omega), wr (by omega) (by omega), wr (by omega) (by omega)⟩
  · refine ⟨wr (by omega) (by omega), wr (by omega) (by omega), wr (by omega) (by omega)⟩
section
variable {t go : Nat} {q p l : Int} {Q : Exit → Act → World → Prop}
theorem Lf.loop {gs : Nat → Nat} {G : Nat → Nat → Int} (ht : t ≤ 3) (hp : 0 ≤ p ∧ p < 1024) (hl : 0 ≤ l ∧ l < 1024) (hP : Rg.PQ Q) (hF : ∀ r, r ≤ t → ∀ c, c ≤ t → G r c = F t q p l r c) : ∀ (m k : Nat) (a : Act) (W : World), k + m = t → Lf.St t go q p l a → a.eval (.tmp 12) = .int .i64 (bot t q p l k) → a.eval (.tmp 13) = .int .i64 (rig t q p l k) → a.eval (.tmp 14) = .int .i64 ((k + 1 : Nat) : Int) → Mx W go (t + 1) gs G →
    (∀ a' n, Ev.Stay Lf.L a a' → a'.eval (.tmp 12) = .int .i64 (bot t q p l t) → a'.eval (.tmp 13) = .int .i64 (rig t q p l t) → Q (.exit 0) a' (W.drewN n)) → Code.rounds Try.prog Lf.body Q (m + 1) a W
  | 0, k, a, W, hk, hs, h12, h13, h14, hG, hQ => by
    rw [rounds_succ]
    refine wp_seq (wp_seq (Rg.x6 hs.sz h14 hs.e0 ?_))
    intro a1 k1 e
    refine wp_cond_false (by rw [e, decide_eq_false (by omega)]) (wp_exit ?_)
    show Q (.exit 0) a1 W
    have ek : k = t := by omega
    subst ek
    exact hQ a1 0 (k1.trans (Ev.Stay.refl [] _) (by decide) (by decide)) ((k1.2.2 12 (by decide)).trans h12) ((k1.2.2 13 (by decide)).trans h13)
  | m + 1, k, a, W, hk, hs, h12, h13, h14, hG, hQ => by
    rw [rounds_succ]
    refine wp_seq (wp_seq (Rg.x6 hs.sz h14 hs.e0 ?_))
    intro a1 k1 e
    refine wp_cond_true (by rw [e, decide_eq_true (by omega)]) (wp_skip ?_)
    show Code.wp _ _ _ _ _
    have s1 := hs.of k1 (by decide)
    have hGd : Mx W.drew go (t + 1) gs G := ⟨hG.top, hG.rows, hG.apart⟩
    have hGd2 : Mx W.drew.drew go (t + 1) gs G := ⟨hG.top, hG.rows, hG.apart⟩
    have fb := (F_steps (t := t) (q := q) hp hl t).1 k
    have fr := (F_steps (t := t) (q := q) hp hl k).2 t
    have db := side_bd (fun i => F t q p l t (i + 1) - F t q p l t i) (fun i => (F_steps (t := t) (q := q) hp hl t).1 i) k
    have dr := side_bd (fun i => F t q p l (i + 1) t - F t q p l i t) (fun i => (F_steps (t := t) (q := q) hp hl i).2 t) k
    have ab := Lf.add (x := bot t q p l k) (k := k) (by omega) db.1 db.2 fb
    have ar := Lf.add (x := rig t q p l k) (k := k) (by omega) dr.1 dr.2 fr
    refine wp_seq (wp_block (wp_seq (Rg.x8 (x := bot t q p l k) (d := F t q p l t (k + 1) - F t q p l t k) (e := (F t q p l t (k + 1) - F t q p l t k) * 2 ^ k) (y := bot t q p l (k + 1)) s1.sz (fun c a a' w hd h => hP c a a' w hd h) s1.e0 s1.e11 ((k1.2.2 12 (by decide)).trans h12) ((k1.2.2 14 (by decide)).trans h14) hGd ht (by omega) (by rw [hF t (by omega) (k + 1) (by omega), hF t (by omega) k (by omega)]; exact ab.1) ab.2.1 (ab.2.2.trans rfl) ?_)))
    intro a2 k2 e12
    show Code.wp _ _ _ _ _
    have s2 := s1.of k2 (by decide)
    refine Rg.x9 (x := rig t q p l k) (d := F t q p l (k + 1) t - F t q p l k t) (e := (F t q p l (k + 1) t - F t q p l k t) * 2 ^ k) (y := rig t q p l (k + 1)) s2.sz (fun c a a' w hd h => hP c a a' w hd h) s2.e0 s2.e11 ((k2.2.2 13 (by decide)).trans ((k1.2.2 13 (by decide)).trans h13)) ((k2.2.2 14 (by decide)).trans ((k1.2.2 14 (by decide)).trans h14)) hGd2 ht (by omega) (by rw [hF (k + 1) (by omega) t (by omega), hF k (by omega) t (by omega)]; exact ar.1) ar.2.1 (ar.2.2.trans rfl) ?_
    intro a3 k3 e13
    show Code.wp _ _ _ _ _
    have s3 := s2.of k3 (by decide)
    refine Rg.x7 (k := k + 1) s3.sz ((k3.2.2 14 (by decide)).trans ((k2.2.2 14 (by decide)).trans ((k1.2.2 14 (by decide)).trans h14))) (by omega) ?_
    intro a4 k4 e14
    show Code.rounds _ _ _ _ _ _
    have st : Ev.Stay Lf.L a a4 := ((k1.trans k2 (L'' := Lf.L) (by decide) (by decide)).trans k3 (L'' := Lf.L) (by decide) (by decide)).trans k4 (by decide) (by decide)
    refine Lf.loop ht hp hl hP hF m (k + 1) a4 W.drew.drew (by omega) (s3.of k4 (by decide)) ((k4.2.2 12 (by decide)).trans ((k3.2.2 12 (by decide)).trans e12)) ((k4.2.2 13 (by decide)).trans e13) e14 hGd2 ?_
    intro a' n st' f12 f13
    have := hQ a' (2 + n) (st.trans st' (fun _ h => h) (fun _ h => h)) f12 f13
    show Q (.exit 0) a' ((W.drewN 2).drewN n)
    rw [World.drewN_drewN]
    exact this
end
theorem Lf.res {a : Act} {W : World} {x y z : Int} (h8 : a.eval (.tmp 8) = .int .i64 x) (h9 : a.eval (.tmp 9) = .int .i64 y) (h10 : a.eval (.tmp 10) = .int .i64 z) : (results Try.f13 a.tmps).run Try.prog W = .ok (.tuple #[.int .i64 x, .int .i64 y, .int .i64 z]) W := by
  have e8 : a.tmps[8]?.getD undef = .int .i64 x := by simpa [Act.eval] using h8
  have e9 : a.tmps[9]?.getD undef = .int .i64 y := by simpa [Act.eval] using h9
  have e10 : a.tmps[10]?.getD undef = .int .i64 z := by simpa [Act.eval] using h10
  simp [results, Try.results13, go_sem, e8, e9, e10]
set_option maxRecDepth 100000 in
theorem refLook_in {t : Nat} {q p l : Int} (ht : 1 ≤ t ∧ t ≤ 3) (hq : 0 ≤ q ∧ q < 2 ^ (t * t)) (hp : 0 ≤ p ∧ p < 2 ^ t) (hl : 0 ≤ l ∧ l < 2 ^ t) (w : World) :
    Calls Try.prog 13 #[.int .i64 (t : Int), .int .i64 q, .int .i64 p, .int .i64 l] w fun e w' => e = .returned (.tuple #[.int .i64 (bot t q p l t), .int .i64 (rig t q p l t), .int .i64 0]) ∧ Below w.heap.size w w' := by
  have hp8 : 2 ^ t ≤ 2 ^ 3 := Nat.pow_le_pow_right (by decide) ht.2
  have hq9 : 2 ^ (t * t) ≤ 2 ^ (3 * 3) := Nat.pow_le_pow_right (by decide) (Nat.mul_le_mul ht.2 ht.2)
  have i8 : (2 : Int) ^ t ≤ 8 := by exact_mod_cast hp8
  have i9 : (2 : Int) ^ (t * t) ≤ 512 := by exact_mod_cast hq9
  have hpb : 0 ≤ p ∧ p < 1024 := by omega
  have hlb : 0 ≤ l ∧ l < 1024 := by omega
  have hqb : 0 ≤ q ∧ q < 1024 := by omega
  refine calls_of_wp Try.func13 rfl ?_
  show Lf.code.wp _ _ _ _
  generalize hR : (fun (e : Ending) (w' : World) => e = .returned (.tuple #[.int .i64 (bot t q p l t), .int .i64 (rig t q p l t), .int .i64 0]) ∧ Below w.heap.size w w') = R
  have hP : Rg.PQ (bodyPost Try.prog Try.f13 R) := fun c a a' w hd h => ⟨hd.trans h.1, h.2⟩
  obtain ⟨a0, ha0⟩ : ∃ a0 : Act, a0 = { tmps := #[.int .i64 (t : Int), .int .i64 q, .int .i64 p, .int .i64 l] ++ Array.replicate (Try.f13.ntmps - (#[.int .i64 (t : Int), .int .i64 q, .int .i64 p, .int .i64 l] : Array Value).size) undef, defers := [] } := ⟨_, rfl⟩
  have hsz : a0.tmps.size = 104 := by rw [ha0]; simp [Try.ntmps13]
  have e0 : a0.eval (.tmp 0) = .int .i64 (t : Int) := by rw [ha0]; exact Ev.entry rfl
  have e1 : a0.eval (.tmp 1) = .int .i64 q := by rw [ha0]; exact Ev.entry rfl
  have e2 : a0.eval (.tmp 2) = .int .i64 p := by rw [ha0]; exact Ev.entry rfl
  have e3 : a0.eval (.tmp 3) = .int .i64 l := by rw [ha0]; exact Ev.entry rfl
  have hd0 : a0.defers = [] := by rw [ha0]
  rw [← ha0]
  clear ha0
  refine wp_seq (Rg.x0 hsz ?_)
  intro a1 k1
  refine wp_seq (wp_seq (Rg.x1 (t := t) (q := q) (p := p) (l := l) (k1.1.trans hsz) ((k1.2.2 0 (by decide)).trans e0) ((k1.2.2 1 (by decide)).trans e1) ((k1.2.2 2 (by decide)).trans e2) ((k1.2.2 3 (by decide)).trans e3) ht (by omega) (by push_cast; omega) (by omega) (by push_cast; omega) (by omega) (by push_cast; omega) ?_))
  intro a2 k2 e47
  refine wp_cond_false e47 (wp_skip ?_)
  show Code.wp _ _ _ _ _
  have st2 : Ev.Stay (8 :: 9 :: 10 :: List.range' 15 33) a0 a2 := k1.trans k2 (by decide) (by decide)
  refine wp_seq (Rg.x3 (t := t) (q := q) (p := p) (l := l) (RR := fun v w' => ∃ go gs G, v = .slice (some ⟨go, 0, none⟩) (t + 1) (t + 1) ∧ Mx w' go (t + 1) gs G ∧ (∀ r, r ≤ t → ∀ c, c ≤ t → G r c = F t q p l r c) ∧ Below w.heap.size w w') (st2.1.trans hsz) ((st2.2.2 0 (by decide)).trans e0) ((st2.2.2 1 (by decide)).trans e1) ((st2.2.2 2 (by decide)).trans e2) ((st2.2.2 3 (by decide)).trans e3) ((refSquare ht.2 hqb hpb hlb w).mono ?_) ?_)
  · rintro e w' ⟨go, gs, G, rfl, h⟩
    exact ⟨_, rfl, go, gs, G, rfl, h⟩
  rintro a3 v W k3 e11 ⟨go, gs, G, rfl, hM, hF, hb⟩
  show Code.wp _ _ _ _ _
  have st3 : Ev.Stay (8 :: 9 :: 10 :: 11 :: List.range' 15 38) a0 a3 := st2.trans k3 (by decide) (by decide)
  have s3 : Lf.St t go q p l a3 := ⟨st3.1.trans hsz, (st3.2.2 0 (by decide)).trans e0, e11⟩
  refine wp_seq (Rg.x4 s3.sz ?_)
  intro a4 k4 e12 e13
  refine wp_seq (wp_seq (Rg.x5 (s3.of k4 (by decide)).sz ?_))
  intro a5 k5 e14
  have s5 := (s3.of k4 (by decide)).of k5 (by decide)
  refine wp_block (wp_loop_rounds (t + 1) ?_)
  refine Lf.loop (gs := gs) (G := G) ht.2 hpb hlb ?hP2 hF t 0 a5 W (by omega) s5 ((k5.2.2 12 (by decide)).trans e12) ((k5.2.2 13 (by decide)).trans e13) e14 hM ?_
  case hP2 => exact fun c a a' w hd h => hP c a a' w hd h
  intro a6 n k6 f12 f13
  show Code.wp _ _ _ _ _
  have s6 := s5.of k6 (by decide)
  refine wp_seq (Rg.x10 s6.sz f12 f13 ?_)
  intro a7 k7 f8 f9 f10
  refine wp_ret ⟨k7.2.1.trans (k6.2.1.trans (k5.2.1.trans (k4.2.1.trans (st3.2.1.trans hd0)))), _, Lf.res f8 f9 f10, ?_⟩
  rw [← hR]
  exact ⟨rfl, pw_below_drewN hb n⟩
set_option maxRecDepth 100000 in
set_option maxHeartbeats 1600000 in
theorem Lf.no1_0 (q p l : Int) (w : World)  (h : q < 0) : Calls Try.prog 13 #[.int .i64 1, .int .i64 q, .int .i64 p, .int .i64 l] w fun e w' => e = .returned (.tuple #[.int .i64 0, .int .i64 0, .int .i64 1]) ∧ w = w' := by
  have hd : decide (q < 0) = true := by simpa using h
  go_enter Try.func13, Try.ntmps13
  go_wp2
  go_ret3
  exact ⟨rfl, rfl⟩
set_option maxRecDepth 100000 in
set_option maxHeartbeats 1600000 in
theorem Lf.no1_1 (q p l : Int) (w : World) (g0 : ¬ q < 0) (h : 2 ≤ q) : Calls Try.prog 13 #[.int .i64 1, .int .i64 q, .int .i64 p, .int .i64 l] w fun e w' => e = .returned (.tuple #[.int .i64 0, .int .i64 0, .int .i64 1]) ∧ w = w' := by
  have f0 : decide (q < 0) = false := by simpa using g0
  have hd : decide (2 ≤ q) = true := by simpa using h
  go_enter Try.func13, Try.ntmps13
  go_wp2
  go_ret3
  exact ⟨rfl, rfl⟩
set_option maxRecDepth 100000 in
set_option maxHeartbeats 1600000 in
theorem Lf.no1_2 (q p l : Int) (w : World) (g0 : ¬ q < 0) (g1 : ¬ 2 ≤ q) (h : p < 0) : Calls Try.prog 13 #[.int .i64 1, .int .i64 q, .int .i64 p, .int .i64 l] w fun e w' => e = .returned (.tuple #[.int .i64 0, .int .i64 0, .int .i64 1]) ∧ w = w' := by
  have f0 : decide (q < 0) = false := by simpa using g0
  have f1 : decide (2 ≤ q) = false := by simpa using g1
  have hd : decide (p < 0) = true := by simpa using h
  go_enter Try.func13, Try.ntmps13
  go_wp2
  go_ret3
  exact ⟨rfl, rfl⟩
set_option maxRecDepth 100000 in
set_option maxHeartbeats 1600000 in
theorem Lf.no1_3 (q p l : Int) (w : World) (g0 : ¬ q < 0) (g1 : ¬ 2 ≤ q) (g2 : ¬ p < 0) (h : 2 ≤ p) : Calls Try.prog 13 #[.int .i64 1, .int .i64 q, .int .i64 p, .int .i64 l] w fun e w' => e = .returned (.tuple #[.int .i64 0, .int .i64 0, .int .i64 1]) ∧ w = w' := by
  have f0 : decide (q < 0) = false := by simpa using g0
  have f1 : decide (2 ≤ q) = false := by simpa using g1
  have f2 : decide (p < 0) = false := by simpa using g2
  have hd : decide (2 ≤ p) = true := by simpa using h
  go_enter Try.func13, Try.ntmps13
  go_wp2
  go_ret3
  exact ⟨rfl, rfl⟩
set_option maxRecDepth 100000 in
set_option maxHeartbeats 1600000 in
theorem Lf.no1_4 (q p l : Int) (w : World) (g0 : ¬ q < 0) (g1 : ¬ 2 ≤ q) (g2 : ¬ p < 0) (g3 : ¬ 2 ≤ p) (h : l < 0) : Calls Try.prog 13 #[.int .i64 1, .int .i64 q, .int .i64 p, .int .i64 l] w fun e w' => e = .returned (.tuple #[.int .i64 0, .int .i64 0, .int .i64 1]) ∧ w = w' := by
  have f0 : decide (q < 0) = false := by simpa using g0
  have f1 : decide (2 ≤ q) = false := by simpa using g1
  have f2 : decide (p < 0) = false := by simpa using g2
  have f3 : decide (2 ≤ p) = false := by simpa using g3
  have hd : decide (l < 0) = true := by simpa using h
  go_enter Try.func13, Try.ntmps13
  go_wp2
  go_ret3
  exact ⟨rfl, rfl⟩
set_option maxRecDepth 100000 in
set_option maxHeartbeats 1600000 in
theorem Lf.no1_5 (q p l : Int) (w : World) (g0 : ¬ q < 0) (g1 : ¬ 2 ≤ q) (g2 : ¬ p < 0) (g3 : ¬ 2 ≤ p) (g4 : ¬ l < 0) (h : 2 ≤ l) : Calls Try.prog 13 #[.int .i64 1, .int .i64 q, .int .i64 p, .int .i64 l] w fun e w' => e = .returned (.tuple #[.int .i64 0, .int .i64 0, .int .i64 1]) ∧ w = w' := by
  have f0 : decide (q < 0) = false := by simpa using g0
  have f1 : decide (2 ≤ q) = false := by simpa using g1
  have f2 : decide (p < 0) = false := by simpa using g2
  have f3 : decide (2 ≤ p) = false := by simpa using g3
  have f4 : decide (l < 0) = false := by simpa using g4
  have hd : decide (2 ≤ l) = true := by simpa using h
  go_enter Try.func13, Try.ntmps13
  go_wp2
  go_ret3
  exact ⟨rfl, rfl⟩
set_option maxRecDepth 100000 in
set_option maxHeartbeats 1600000 in
theorem Lf.no2_0 (q p l : Int) (w : World)  (h : q < 0) : Calls Try.prog 13 #[.int .i64 2, .int .i64 q, .int .i64 p, .int .i64 l] w fun e w' => e = .returned (.tuple #[.int .i64 0, .int .i64 0, .int .i64 1]) ∧ w = w' := by
  have hd : decide (q < 0) = true := by simpa using h
  go_enter Try.func13, Try.ntmps13
  go_wp2
  go_ret3
  exact ⟨rfl, rfl⟩
set_option maxRecDepth 100000 in
set_option maxHeartbeats 1600000 in
theorem Lf.no2_1 (q p l : Int) (w : World) (g0 : ¬ q < 0) (h : 16 ≤ q) : Calls Try.prog 13 #[.int .i64 2, .int .i64 q, .int .i64 p, .int .i64 l] w fun e w' => e = .returned (.tuple #[.int .i64 0, .int .i64 0, .int .i64 1]) ∧ w = w' := by
  have f0 : decide (q < 0) = false := by simpa using g0
  have hd : decide (16 ≤ q) = true := by simpa using h
  go_enter Try.func13, Try.ntmps13
  go_wp2
  go_ret3
  exact ⟨rfl, rfl⟩
set_option maxRecDepth 100000 in
set_option maxHeartbeats 1600000 in
theorem Lf.no2_2 (q p l : Int) (w : World) (g0 : ¬ q < 0) (g1 : ¬ 16 ≤ q) (h : p < 0) : Calls Try.prog 13 #[.int .i64 2, .int .i64 q, .int .i64 p, .int .i64 l] w fun e w' => e = .returned (.tuple #[.int .i64 0, .int .i64 0, .int .i64 1]) ∧ w = w' := by
  have f0 : decide (q < 0) = false := by simpa using g0
  have f1 : decide (16 ≤ q) = false := by simpa using g1
  have hd : decide (p < 0) = true := by simpa using h
  go_enter Try.func13, Try.ntmps13
  go_wp2
  go_ret3
  exact ⟨rfl, rfl⟩
set_option maxRecDepth 100000 in
set_option maxHeartbeats 1600000 in
theorem Lf.no2_3 (q p l : Int) (w : World) (g0 : ¬ q < 0) (g1 : ¬ 16 ≤ q) (g2 : ¬ p < 0) (h : 4 ≤ p) : Calls Try.prog 13 #[.int .i64 2, .int .i64 q, .int .i64 p, .int .i64 l] w fun e w' => e = .returned (.tuple #[.int .i64 0, .int .i64 0, .int .i64 1]) ∧ w = w' := by
  have f0 : decide (q < 0) = false := by simpa using g0
  have f1 : decide (16 ≤ q) = false := by simpa using g1
  have f2 : decide (p < 0) = false := by simpa using g2
  have hd : decide (4 ≤ p) = true := by simpa using h
  go_enter Try.func13, Try.ntmps13
  go_wp2
  go_ret3
  exact ⟨rfl, rfl⟩
set_option maxRecDepth 100000 in
set_option maxHeartbeats 1600000 in
theorem Lf.no2_4 (q p l : Int) (w : World) (g0 : ¬ q < 0) (g1 : ¬ 16 ≤ q) (g2 : ¬ p < 0) (g3 : ¬ 4 ≤ p) (h : l < 0) : Calls Try.prog 13 #[.int .i64 2, .int .i64 q, .int .i64 p, .int .i64 l] w fun e w' => e = .returned (.tuple #[.int .i64 0, .int .i64 0, .int .i64 1]) ∧ w = w' := by
  have f0 : decide (q < 0) = false := by simpa using g0
  have f1 : decide (16 ≤ q) = false := by simpa using g1
  have f2 : decide (p < 0) = false := by simpa using g2
  have f3 : decide (4 ≤ p) = false := by simpa using g3
  have hd : decide (l < 0) = true := by simpa using h
  go_enter Try.func13, Try.ntmps13
  go_wp2
  go_ret3
  exact ⟨rfl, rfl⟩
set_option maxRecDepth 100000 in
set_option maxHeartbeats 1600000 in
theorem Lf.no2_5 (q p l : Int) (w : World) (g0 : ¬ q < 0) (g1 : ¬ 16 ≤ q) (g2 : ¬ p < 0) (g3 : ¬ 4 ≤ p) (g4 : ¬ l < 0) (h : 4 ≤ l) : Calls Try.prog 13 #[.int .i64 2, .int .i64 q, .int .i64 p, .int .i64 l] w fun e w' => e = .returned (.tuple #[.int .i64 0, .int .i64 0, .int .i64 1]) ∧ w = w' := by
  have f0 : decide (q < 0) = false := by simpa using g0
  have f1 : decide (16 ≤ q) = false := by simpa using g1
  have f2 : decide (p < 0) = false := by simpa using g2
  have f3 : decide (4 ≤ p) = false := by simpa using g3
  have f4 : decide (l < 0) = false := by simpa using g4
  have hd : decide (4 ≤ l) = true := by simpa using h
  go_enter Try.func13, Try.ntmps13
  go_wp2
  go_ret3
  exact ⟨rfl, rfl⟩
set_option maxRecDepth 100000 in
set_option maxHeartbeats 1600000 in
theorem Lf.no3_0 (q p l : Int) (w : World)  (h : q < 0) : Calls Try.prog 13 #[.int .i64 3, .int .i64 q, .int .i64 p, .int .i64 l] w fun e w' => e = .returned (.tuple #[.int .i64 0, .int .i64 0, .int .i64 1]) ∧ w = w' := by
  have hd : decide (q < 0) = true := by simpa using h
  go_enter Try.func13, Try.ntmps13
  go_wp2
  go_ret3
  exact ⟨rfl, rfl⟩
set_option maxRecDepth 100000 in
set_option maxHeartbeats 1600000 in
theorem Lf.no3_1 (q p l : Int) (w : World) (g0 : ¬ q < 0) (h : 512 ≤ q) : Calls Try.prog 13 #[.int .i64 3, .int .i64 q, .int .i64 p, .int .i64 l] w fun e w' => e = .returned (.tuple #[.int .i64 0, .int .i64 0, .int .i64 1]) ∧ w = w' := by
  have f0 : decide (q < 0) = false := by simpa using g0
  have hd : decide (512 ≤ q) = true := by simpa using h
  go_enter Try.func13, Try.ntmps13
  go_wp2
  go_ret3
  exact ⟨rfl, rfl⟩
set_option maxRecDepth 100000 in
set_option maxHeartbeats 1600000 in
theorem Lf.no3_2 (q p l : Int) (w : World) (g0 : ¬ q < 0) (g1 : ¬ 512 ≤ q) (h : p < 0) : Calls Try.prog 13 #[.int .i64 3, .int .i64 q, .int .i64 p, .int .i64 l] w fun e w' => e = .returned (.tuple #[.int .i64 0, .int .i64 0, .int .i64 1]) ∧ w = w' := by
  have f0 : decide (q < 0) = false := by simpa using g0
  have f1 : decide (512 ≤ q) = false := by simpa using g1
  have hd : decide (p < 0) = true := by simpa using h
  go_enter Try.func13, Try.ntmps13
  go_wp2
  go_ret3
  exact ⟨rfl, rfl⟩
set_option maxRecDepth 100000 in
set_option maxHeartbeats 1600000 in
theorem Lf.no3_3 (q p l : Int) (w : World) (g0 : ¬ q < 0) (g1 : ¬ 512 ≤ q) (g2 : ¬ p < 0) (h : 8 ≤ p) : Calls Try.prog 13 #[.int .i64 3, .int .i64 q, .int .i64 p, .int .i64 l] w fun e w' => e = .returned (.tuple #[.int .i64 0, .int .i64 0, .int .i64 1]) ∧ w = w' := by
  have f0 : decide (q < 0) = false := by simpa using g0
  have f1 : decide (512 ≤ q) = false := by simpa using g1
  have f2 : decide (p < 0) = false := by simpa using g2
  have hd : decide (8 ≤ p) = true := by simpa using h
  go_enter Try.func13, Try.ntmps13
  go_wp2
  go_ret3
  exact ⟨rfl, rfl⟩
set_option maxRecDepth 100000 in
set_option maxHeartbeats 1600000 in
theorem Lf.no3_4 (q p l : Int) (w : World) (g0 : ¬ q < 0) (g1 : ¬ 512 ≤ q) (g2 : ¬ p < 0) (g3 : ¬ 8 ≤ p) (h : l < 0) : Calls Try.prog 13 #[.int .i64 3, .int .i64 q, .int .i64 p, .int .i64 l] w fun e w' => e = .returned (.tuple #[.int .i64 0, .int .i64 0, .int .i64 1]) ∧ w = w' := by
  have f0 : decide (q < 0) = false := by simpa using g0
  have f1 : decide (512 ≤ q) = false := by simpa using g1
  have f2 : decide (p < 0) = false := by simpa using g2
  have f3 : decide (8 ≤ p) = false := by simpa using g3
  have hd : decide (l < 0) = true := by simpa using h
  go_enter Try.func13, Try.ntmps13
  go_wp2
  go_ret3
  exact ⟨rfl, rfl⟩
set_option maxRecDepth 100000 in
set_option maxHeartbeats 1600000 in
theorem Lf.no3_5 (q p l : Int) (w : World) (g0 : ¬ q < 0) (g1 : ¬ 512 ≤ q) (g2 : ¬ p < 0) (g3 : ¬ 8 ≤ p) (g4 : ¬ l < 0) (h : 8 ≤ l) : Calls Try.prog 13 #[.int .i64 3, .int .i64 q, .int .i64 p, .int .i64 l] w fun e w' => e = .returned (.tuple #[.int .i64 0, .int .i64 0, .int .i64 1]) ∧ w = w' := by
  have f0 : decide (q < 0) = false := by simpa using g0
  have f1 : decide (512 ≤ q) = false := by simpa using g1
  have f2 : decide (p < 0) = false := by simpa using g2
  have f3 : decide (8 ≤ p) = false := by simpa using g3
  have f4 : decide (l < 0) = false := by simpa using g4
  have hd : decide (8 ≤ l) = true := by simpa using h
  go_enter Try.func13, Try.ntmps13
  go_wp2
  go_ret3
  exact ⟨rfl, rfl⟩
theorem refLook_no {t : Nat} (ht : 1 ≤ t ∧ t ≤ 3) (q p l : Int) (w : World) (h : ¬ (0 ≤ q ∧ q < 2 ^ (t * t) ∧ 0 ≤ p ∧ p < 2 ^ t ∧ 0 ≤ l ∧ l < 2 ^ t)) : Calls Try.prog 13 #[.int .i64 (t : Int), .int .i64 q, .int .i64 p, .int .i64 l] w fun e w' => e = .returned (.tuple #[.int .i64 0, .int .i64 0, .int .i64 1]) ∧ w = w' := by
  have e : t = 1 ∨ t = 2 ∨ t = 3 := by omega
  rcases e with rfl | rfl | rfl
  · have h : ¬ (0 ≤ q ∧ q < 2 ∧ 0 ≤ p ∧ p < 2 ∧ 0 ≤ l ∧ l < 2) := h
    by_cases g0 : q < 0
    · exact Lf.no1_0 q p l w  g0
    by_cases g1 : 2 ≤ q
    · exact Lf.no1_1 q p l w g0 g1
    by_cases g2 : p < 0
    · exact Lf.no1_2 q p l w g0 g1 g2
    by_cases g3 : 2 ≤ p
    · exact Lf.no1_3 q p l w g0 g1 g2 g3
    by_cases g4 : l < 0
    · exact Lf.no1_4 q p l w g0 g1 g2 g3 g4
    by_cases g5 : 2 ≤ l
    · exact Lf.no1_5 q p l w g0 g1 g2 g3 g4 g5
    exact absurd ⟨by omega, by omega, by omega, by omega, by omega, by omega⟩ h
  · have h : ¬ (0 ≤ q ∧ q < 16 ∧ 0 ≤ p ∧ p < 4 ∧ 0 ≤ l ∧ l < 4) := h
    by_cases g0 : q < 0
    · exact Lf.no2_0 q p l w  g0
    by_cases g1 : 16 ≤ q
    · exact Lf.no2_1 q p l w g0 g1
    by_cases g2 : p < 0
    · exact Lf.no2_2 q p l w g0 g1 g2
    by_cases g3 : 4 ≤ p
    · exact Lf.no2_3 q p l w g0 g1 g2 g3
    by_cases g4 : l < 0
    · exact Lf.no2_4 q p l w g0 g1 g2 g3 g4
    by_cases g5 : 4 ≤ l
    · exact Lf.no2_5 q p l w g0 g1 g2 g3 g4 g5
    exact absurd ⟨by omega, by omega, by omega, by omega, by omega, by omega⟩ h
  · have h : ¬ (0 ≤ q ∧ q < 512 ∧ 0 ≤ p ∧ p < 8 ∧ 0 ≤ l ∧ l < 8) := h
    by_cases g0 : q < 0
    · exact Lf.no3_0 q p l w  g0
    by_cases g1 : 512 ≤ q
    · exact Lf.no3_1 q p l w g0 g1
    by_cases g2 : p < 0
    · exact Lf.no3_2 q p l w g0 g1 g2
    by_cases g3 : 8 ≤ p
    · exact Lf.no3_3 q p l w g0 g1 g2 g3
    by_cases g4 : l < 0
    · exact Lf.no3_4 q p l w g0 g1 g2 g3 g4
    by_cases g5 : 8 ≤ l
    · exact Lf.no3_5 q p l w g0 g1 g2 g3 g4 g5
    exact absurd ⟨by omega, by omega, by omega, by omega, by omega, by omega⟩ h
theorem refLook {t : Nat} {q p l : Int} (ht : 1 ≤ t ∧ t ≤ 3) (w : World) :
    Calls Try.prog 13 #[.int .i64 (t : Int), .int .i64 q, .int .i64 p, .int .i64 l] w fun e w' => e = .returned (.tuple #[.int .i64 (lookV t q p l).1, .int .i64 (lookV t q p l).2.1, .int .i64 (lookV t q p l).2.2]) ∧ Below w.heap.size w w' := by
  unfold lookV
  by_cases h : 0 ≤ q ∧ q < 2 ^ (t * t) ∧ 0 ≤ p ∧ p < 2 ^ t ∧ 0 ≤ l ∧ l < 2 ^ t
  · rw [if_pos h]
    obtain ⟨h1, h2, h3, h4, h5, h6⟩ := h
    exact refLook_in ht ⟨h1, h2⟩ ⟨h3, h4⟩ ⟨h5, h6⟩ w
  · rw [if_neg h]
    refine (refLook_no ht q p l w h).mono ?_
    rintro e w' ⟨rfl, rfl⟩
    exact ⟨rfl, Below.refl _ _⟩
set_option maxRecDepth 100000 in
set_option maxHeartbeats 4000000 in
theorem looks (t q p l : Int) (w : World) : Calls Try.prog 4 #[.int .i64 t, .int .i64 q, .int .i64 p, .int .i64 l] w fun e w' => e = .returned (.bool true) ∧ Below w.heap.size w w' := by
  by_cases ht : 1 ≤ t ∧ t ≤ 3
  · obtain ⟨n, rfl⟩ := Int.eq_ofNat_of_zero_le (show 0 ≤ t by omega)
    have hn : 1 ≤ n ∧ n ≤ 3 := by omega
    have h1 : ¬ (n : Int) < 1 := by omega
    have h2 : ¬ (3 : Int) < (n : Int) := by omega
    go_enter Try.func4, Try.ntmps4
    go_wp2_with fail
    refine (awake w).mono ?_
    rintro e w1 ⟨rfl, hb⟩
    have B1 := Aside0.mk hb
    clear hb
    go_wp2_with fail
    refine (new_ok hn w1).mono ?_
    rintro e w' ⟨rfl, rfl⟩
    have T2 := Aside0.mk (Tl.new hn w1)
    have B2 := Aside0.mk (below_alloc B1.out (.cells (blk n 0 0 (.slice none 0 0)) 52) : Below w.heap.size w (w1.alloc (.cells (blk n 0 0 (.slice none 0 0)) 52)))
    have Z2 := Aside0.mk (B1.out.size)
    generalize (w1.alloc (.cells (blk n 0 0 (.slice none 0 0)) 52)) = w2 at T2 B2 ⊢
    generalize w1.heap.size = b at T2 Z2 ⊢
    go_wp2_with fail
    refine (look_any (n0 := w.heap.size) (q := q) (p := p) (l := l) w2 T2.out Z2.out).mono ?_
    rintro e w3 ⟨rfl, hT, hb, _⟩
    have T3 := Aside0.mk hT
    have B3 := Aside0.mk (B2.out.trans hb)
    have R3 := Aside0.mk (refLook (t := n) (q := q) (p := p) (l := l) hn w3)
    clear hT hb T2 B2
    generalize lookV n q p l = z at R3 ⊢
    obtain ⟨z1, z2, z3⟩ := z
    go_wp2_with fail
    refine R3.out.mono ?_
    rintro e w4 ⟨rfl, hb⟩
    have T4 := Aside0.mk (T3.out.below hb)
    have B4 := Aside0.mk (B3.out.trans (hb.mono B3.out.size))
    clear hb T3 B3 R3
    go_wp2_with fail
    refine (sideOf b n w4 T4.out.cell).mono ?_
    rintro e w5 ⟨rfl, rfl⟩
    go_wp2_with fail
    refine (size b n hn w4 T4.out.cell).mono ?_
    rintro e w5 ⟨rfl, nd, rfl⟩
    go_wp2_with fail
    refine (refSize hn _).mono ?_
    rintro e w5 ⟨rfl, rfl⟩
    go_wp2_with fail
    go_ret
    exact ⟨rfl, pw_below_drewN B4.out nd⟩
  · have h12 : t < 1 ∨ 3 < t := by omega
    go_enter Try.func4, Try.ntmps4
    go_wp2_with fail
    refine (awake w).mono ?_
    rintro e w1 ⟨rfl, hb⟩
    have B1 := Aside0.mk hb
    clear hb
    go_wp2_with fail
    refine (new_no h12 w1).mono ?_
    rintro e w' ⟨rfl, rfl⟩
    by_cases h1 : t < 1
    · go_wp2_with fail
      go_ret
      exact ⟨rfl, B1.out⟩
    · have h2 : (3 : Int) < t := by omega
      go_wp2_with fail
      go_ret
      exact ⟨rfl, B1.out⟩
end Go.Proofs.Ytfldkfccdjdofaa.Tile
