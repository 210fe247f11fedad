/- The contracts of hyyro.Len, croch.Len over that of vec.Count. -/
import Derived.Test.YtjkjanegankdhaaGreatZHRow
namespace Go.Proofs.YtjkjanegankdhaaGreat.Vx
open Go.RowKit Go.Proofs.YtjkjanegankdhaaGreatW.PrintWords Go.Proofs.YtjkjanegankdhaaGreatW.PrintLast Go.Proofs.YtjkjanegankdhaaGreatW.PrintMore
attribute [local go_sem] max2_int min2_int max_two min_two max_three min_three max_four min_four
set_option linter.unusedVariables false
set_option linter.unusedSimpArgs false
set_option maxRecDepth 100000 in
set_option maxHeartbeats 4000000 in
/-- hyyro.Len -/
theorem Vec.hyLen_calls (q : Int) (A : Option Addr) (c : Nat) (a : List Int) (B : Option Addr) (d : Nat) (b : List Int) (w : World) (ha : Kd.C (Kd.int .i64) w A a.length a) (hb : Kd.C (Kd.int .i64) w B b.length b) (hd : b.length ≤ d) (hla : a.length ≤ 1000000) (hlb : b.length ≤ 1000000) (hwa : ∀ x ∈ a, (Lit.int .i64 x).wf = true) (hwb : ∀ x ∈ b, (Lit.int .i64 x).wf = true)
    (hcount : ∀ (A : Option Addr) (c : Nat) (w : World), Kd.C (Kd.int .u64) w A (Vec.rowAt Vec.hyRow a b a.length).length (Vec.rowAt Vec.hyRow a b a.length) → (Vec.rowAt Vec.hyRow a b a.length).length ≤ c → Calls Tryz.prog 83 #[.slice A (Vec.rowAt Vec.hyRow a b a.length).length c, .int .i64 (b.length : Int)] w fun e w' => e = .returned (.int .i64 q) ∧ Below w.heap.size w w') :
    Calls Tryz.prog 38 #[.slice A a.length c, .slice B b.length d] w fun e w' => e = .returned (.int .i64 (wrap64 ((b.length : Int) - q))) ∧ Below w.heap.size w w' := by
  have HA := Aside0.mk ha
  have HBb := Aside0.mk hb
  have HD := Aside0.mk hd
  have WA := Aside0.mk hwa
  have WB := Aside0.mk hwb
  have HCT := Aside0.mk hcount
  obtain ⟨N, eN⟩ : ∃ N, N = Vec.words b.length := ⟨_, rfl⟩
  have hN : N ≤ 20000 := by rw [eN]; exact Vec.words_le hlb
  have EN := Aside0.mk eN
  clear ha hb hd hwa hwb eN hcount
  go_enter Tryz.func38, Tryz.ntmps38
  go_wp2_with fail
  refine (Mask.new_calls B d b w HBb.out HD.out hlb WB.out).mono ?_
  rintro e w1 ⟨p, rfl, hp, hb⟩
  have HP := Aside0.mk hp
  have HB := Aside0.mk hb
  clear hp hb
  go_wp2_with fail
  refine (Vec.ones_calls b.length w1 hlb).mono ?_
  rintro e w2 ⟨z, rfl, hz, hb⟩
  obtain ⟨Az, cz, rfl⟩ := Kd.R_slice hz
  have hl0 : (Vec.ones b.length).length = N := by rw [EN.out]; exact Vec.not_len _ _
  have HN1 := Aside0.mk hb
  have hz1 := Kd.R_reads' hz
  have HZ := Aside0.mk hz1.2.2
  have hcz := hz1.2.1
  clear hz hb hz1
  rw [hl0] at HZ hcz ⊢
  have HCZ := Aside0.mk hcz
  clear hl0 hcz
  go_wp2_with fail
  go_loopw [6, 16] (fun v i wr => ∃ (k : Nat) (Ar : Option Addr) (cr : Nat), k ≤ a.length ∧ i = .int .i64 k ∧ v = .slice Ar N cr ∧ N ≤ cr ∧ Aside0 (Kd.C (Kd.int .u64) wr Ar N (Vec.rowAt Vec.hyRow a b k)) ∧ Aside0 (Below w1.heap.size w1 wr)) (fun v i _ => a.length - (intOf i).toNat)
  case atStart => exact ⟨0, Az, cz, Nat.zero_le _, rfl, rfl, HCZ.out, HZ, HN1⟩
  case round =>
    clear HZ HN1 HCZ
    obtain ⟨k, Ar, cr, hk, rfl, rfl, hcr, HRS, HN1⟩ := hrel
    have HCR := Aside0.mk hcr
    clear hcr
    have hlen := (Vec.hy_ok a b k).2
    have HOK := Aside0.mk (Vec.hy_ok a b k).1
    rw [← EN.out] at hlen
    have HLN := Aside0.mk hlen
    clear hlen
    by_cases hlt : k < a.length
    · obtain ⟨ad, ea, hx⟩ := Kd.at_int (Kd.C_below HA.out (below_step HB.out HN1.out)) (k : Int) (by omega) (by omega)
      subst ea
      rw [Int.toNat_natCast] at hx
      have hxw : (Lit.int .i64 (rd a (k : Int))).wf = true := by
        have e : rd a (k : Int) = a[k] := by unfold rd; simp [hlt]
        rw [e]; exact WA.out _ (List.getElem_mem hlt)
      obtain ⟨x, ex⟩ : ∃ x, x = rd a (k : Int) := ⟨_, rfl⟩
      rw [← ex] at hx hxw
      have EX := Aside0.mk ex
      have HXW := Aside0.mk hxw
      have hk0 : (0 : Int) ≤ (k : Int) := Int.natCast_nonneg _
      have hk1 : (k : Int) < (k : Int) + 1 := by omega
      clear ex hxw
      go_wp2_with fail
      refine (Mask.of_calls p b x wr (HP.out.below HN1.out) hlb HXW.out).mono ?_
      rintro e w5 ⟨z1, rfl, h1, hb1⟩
      obtain ⟨A1, c1, rfl⟩ := Kd.R_slice h1
      rw [Mask.row_len, ← EN.out]
      have H1 := Aside0.mk h1
      have HB1 := Aside0.mk hb1
      clear h1 hb1
      go_wp2_with fail
      have R1 := (Kd.R_reads' H1.out).2.2
      have hc_ := Vec.hyRow_calls Ar cr (Vec.rowAt Vec.hyRow a b k) A1 c1 _ b.length w5 (by rw [HLN.out]; exact Kd.C_below HRS.out HB1.out) R1 hlb HOK.out (Mask.row_ok _ _ _ _)
      rw [HLN.out, Mask.row_len, ← EN.out] at hc_
      refine hc_.mono ?_
      clear hc_ R1
      rintro e w6 ⟨z2, rfl, h2, hb2⟩
      obtain ⟨A2, c2, rfl⟩ := Kd.R_slice h2
      have el_ : (Vec.hyRow (Vec.rowAt Vec.hyRow a b k) (Mask.row b x b.length N) b.length).length = N := (Vec.fit_len _ _).trans EN.out.symm
      have hr2 := Kd.R_reads' h2
      rw [el_] at hr2 ⊢
      have er_ : Vec.rowAt Vec.hyRow a b (k + 1) = Vec.hyRow (Vec.rowAt Vec.hyRow a b k) (Mask.row b x b.length N) b.length := by rw [EN.out, EX.out]; rfl
      rw [← er_] at hr2
      have HR2 := Aside0.mk hr2
      have HB2 := Aside0.mk (below_step HN1.out (below_step HB1.out hb2))
      clear h2 hb2 el_ hr2 er_
      go_wp2
      go_roundw
      case rel => exact ⟨k + 1, A2, c2, by omega, by go_num, rfl, HR2.out.2.1, Aside0.mk HR2.out.2.2, HB2⟩
      case measure => simp [intOf]; omega
    · have ek : k = a.length := by omega
      subst ek
      clear hk hlt
      have hc_ := HCT.out Ar cr wr (by rw [HLN.out]; exact HRS.out) (by rw [HLN.out]; exact HCR.out)
      rw [HLN.out] at hc_
      have HC_ := Aside0.mk hc_
      clear hc_
      go_wp2_with fail
      refine HC_.out.mono ?_
      rintro e w7 ⟨rfl, hb7⟩
      have HB7 := Aside0.mk hb7
      clear hb7
      go_wp2
      go_ret
      exact ⟨rfl, below_step HB.out (below_step HN1.out HB7.out)⟩
set_option maxRecDepth 100000 in
set_option maxHeartbeats 4000000 in
/-- croch.Len -/
theorem Vec.crLen_calls (q : Int) (A : Option Addr) (c : Nat) (a : List Int) (B : Option Addr) (d : Nat) (b : List Int) (w : World) (ha : Kd.C (Kd.int .i64) w A a.length a) (hb : Kd.C (Kd.int .i64) w B b.length b) (hd : b.length ≤ d) (hla : a.length ≤ 1000000) (hlb : b.length ≤ 1000000) (hwa : ∀ x ∈ a, (Lit.int .i64 x).wf = true) (hwb : ∀ x ∈ b, (Lit.int .i64 x).wf = true)
    (hcount : ∀ (A : Option Addr) (c : Nat) (w : World), Kd.C (Kd.int .u64) w A (Vec.rowAt Vec.crRow a b a.length).length (Vec.rowAt Vec.crRow a b a.length) → (Vec.rowAt Vec.crRow a b a.length).length ≤ c → Calls Tryz.prog 83 #[.slice A (Vec.rowAt Vec.crRow a b a.length).length c, .int .i64 (b.length : Int)] w fun e w' => e = .returned (.int .i64 q) ∧ Below w.heap.size w w') :
    Calls Tryz.prog 39 #[.slice A a.length c, .slice B b.length d] w fun e w' => e = .returned (.int .i64 (wrap64 ((b.length : Int) - q))) ∧ Below w.heap.size w w' := by
  have HA := Aside0.mk ha
  have HBb := Aside0.mk hb
  have HD := Aside0.mk hd
  have WA := Aside0.mk hwa
  have WB := Aside0.mk hwb
  have HCT := Aside0.mk hcount
  obtain ⟨N, eN⟩ : ∃ N, N = Vec.words b.length := ⟨_, rfl⟩
  have hN : N ≤ 20000 := by rw [eN]; exact Vec.words_le hlb
  have EN := Aside0.mk eN
  clear ha hb hd hwa hwb eN hcount
  go_enter Tryz.func39, Tryz.ntmps39
  go_wp2_with fail
  refine (Mask.new_calls B d b w HBb.out HD.out hlb WB.out).mono ?_
  rintro e w1 ⟨p, rfl, hp, hb⟩
  have HP := Aside0.mk hp
  have HB := Aside0.mk hb
  clear hp hb
  go_wp2_with fail
  refine (Vec.ones_calls b.length w1 hlb).mono ?_
  rintro e w2 ⟨z, rfl, hz, hb⟩
  obtain ⟨Az, cz, rfl⟩ := Kd.R_slice hz
  have hl0 : (Vec.ones b.length).length = N := by rw [EN.out]; exact Vec.not_len _ _
  have HN1 := Aside0.mk hb
  have hz1 := Kd.R_reads' hz
  have HZ := Aside0.mk hz1.2.2
  have hcz := hz1.2.1
  clear hz hb hz1
  rw [hl0] at HZ hcz ⊢
  have HCZ := Aside0.mk hcz
  clear hl0 hcz
  go_wp2_with fail
  go_loopw [6, 16] (fun v i wr => ∃ (k : Nat) (Ar : Option Addr) (cr : Nat), k ≤ a.length ∧ i = .int .i64 k ∧ v = .slice Ar N cr ∧ N ≤ cr ∧ Aside0 (Kd.C (Kd.int .u64) wr Ar N (Vec.rowAt Vec.crRow a b k)) ∧ Aside0 (Below w1.heap.size w1 wr)) (fun v i _ => a.length - (intOf i).toNat)
  case atStart => exact ⟨0, Az, cz, Nat.zero_le _, rfl, rfl, HCZ.out, HZ, HN1⟩
  case round =>
    clear HZ HN1 HCZ
    obtain ⟨k, Ar, cr, hk, rfl, rfl, hcr, HRS, HN1⟩ := hrel
    have HCR := Aside0.mk hcr
    clear hcr
    have hlen := (Vec.cr_ok a b k).2
    have HOK := Aside0.mk (Vec.cr_ok a b k).1
    rw [← EN.out] at hlen
    have HLN := Aside0.mk hlen
    clear hlen
    by_cases hlt : k < a.length
    · obtain ⟨ad, ea, hx⟩ := Kd.at_int (Kd.C_below HA.out (below_step HB.out HN1.out)) (k : Int) (by omega) (by omega)
      subst ea
      rw [Int.toNat_natCast] at hx
      have hxw : (Lit.int .i64 (rd a (k : Int))).wf = true := by
        have e : rd a (k : Int) = a[k] := by unfold rd; simp [hlt]
        rw [e]; exact WA.out _ (List.getElem_mem hlt)
      obtain ⟨x, ex⟩ : ∃ x, x = rd a (k : Int) := ⟨_, rfl⟩
      rw [← ex] at hx hxw
      have EX := Aside0.mk ex
      have HXW := Aside0.mk hxw
      have hk0 : (0 : Int) ≤ (k : Int) := Int.natCast_nonneg _
      have hk1 : (k : Int) < (k : Int) + 1 := by omega
      clear ex hxw
      go_wp2_with fail
      refine (Mask.of_calls p b x wr (HP.out.below HN1.out) hlb HXW.out).mono ?_
      rintro e w5 ⟨z1, rfl, h1, hb1⟩
      obtain ⟨A1, c1, rfl⟩ := Kd.R_slice h1
      rw [Mask.row_len, ← EN.out]
      have H1 := Aside0.mk h1
      have HB1 := Aside0.mk hb1
      clear h1 hb1
      go_wp2_with fail
      have R1 := (Kd.R_reads' H1.out).2.2
      have hc_ := Vec.crRow_calls Ar cr (Vec.rowAt Vec.crRow a b k) A1 c1 _ b.length w5 (by rw [HLN.out]; exact Kd.C_below HRS.out HB1.out) R1 hlb HOK.out (Mask.row_ok _ _ _ _)
      rw [HLN.out, Mask.row_len, ← EN.out] at hc_
      refine hc_.mono ?_
      clear hc_ R1
      rintro e w6 ⟨z2, rfl, h2, hb2⟩
      obtain ⟨A2, c2, rfl⟩ := Kd.R_slice h2
      have el_ : (Vec.crRow (Vec.rowAt Vec.crRow a b k) (Mask.row b x b.length N) b.length).length = N := (Vec.fit_len _ _).trans EN.out.symm
      have hr2 := Kd.R_reads' h2
      rw [el_] at hr2 ⊢
      have er_ : Vec.rowAt Vec.crRow a b (k + 1) = Vec.crRow (Vec.rowAt Vec.crRow a b k) (Mask.row b x b.length N) b.length := by rw [EN.out, EX.out]; rfl
      rw [← er_] at hr2
      have HR2 := Aside0.mk hr2
      have HB2 := Aside0.mk (below_step HN1.out (below_step HB1.out hb2))
      clear h2 hb2 el_ hr2 er_
      go_wp2
      go_roundw
      case rel => exact ⟨k + 1, A2, c2, by omega, by go_num, rfl, HR2.out.2.1, Aside0.mk HR2.out.2.2, HB2⟩
      case measure => simp [intOf]; omega
    · have ek : k = a.length := by omega
      subst ek
      clear hk hlt
      have hc_ := HCT.out Ar cr wr (by rw [HLN.out]; exact HRS.out) (by rw [HLN.out]; exact HCR.out)
      rw [HLN.out] at hc_
      have HC_ := Aside0.mk hc_
      clear hc_
      go_wp2_with fail
      refine HC_.out.mono ?_
      rintro e w7 ⟨rfl, hb7⟩
      have HB7 := Aside0.mk hb7
      clear hb7
      go_wp2
      go_ret
      exact ⟨rfl, below_step HB.out (below_step HN1.out HB7.out)⟩
end Go.Proofs.YtjkjanegankdhaaGreat.Vx
