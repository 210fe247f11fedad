/- The contracts of the rows of bits: hyyro.Row, croch.Row, Rows. -/
import Derived.Test.YtjkjanegankdhaaGreatZHMask
import Derived.Deep.AppendLies
namespace Go.Proofs.YtjkjanegankdhaaGreat.Vx
open Go.RowKit Go.Proofs.YtjkjanegankdhaaGreatW.PrintWords Go.Proofs.YtjkjanegankdhaaGreatW.PrintLast Go.Proofs.YtjkjanegankdhaaGreatW.PrintMore
attribute [local go_sem] max2_int min2_int max_two min_two max_three min_three max_four min_four
set_option linter.unusedVariables false
set_option linter.unusedSimpArgs false
/-! rows of bits: what hyyro.Row and croch.Row make -/
def Vec.list (N : Nat) (f : Nat → Nat) : List Int := (List.range N).map fun k => (f k : Int)
theorem Vec.list_len (N : Nat) (f : Nat → Nat) : (Vec.list N f).length = N := by simp [Vec.list]
theorem Vec.list_w {N : Nat} (f : Nat → Nat) {k : Nat} (hk : k < N) : Vec.w (Vec.list N f) k = f k := by
  unfold Vec.w Vec.list rd
  rw [Int.toNat_natCast, List.getD_eq_getElem?_getD, List.getElem?_map, List.getElem?_range hk]
  simp
theorem Vec.list_ok {N : Nat} {f : Nat → Nat} (h : ∀ k, f k < 18446744073709551616) : (Vec.list N f).all Vec.ok = true := by
  refine List.all_eq_true.2 fun y hy => ?_
  obtain ⟨q, _, rfl⟩ := List.mem_map.1 hy
  have := h q
  simp [Vec.ok]; omega
def Vec.fitL (l : List Int) (n : Nat) : List Int := Vec.list (Vec.words n) fun k => Vec.w l k &&& Vec.mask n k
def Vec.notL (l : List Int) (n : Nat) : List Int := Vec.list (Vec.words n) fun k => 18446744073709551615 - Vec.w l k &&& Vec.mask n k
def Vec.andL (l m : List Int) : List Int := Vec.list l.length fun k => Vec.w l k &&& Vec.w m k
def Vec.orL (l m : List Int) : List Int := Vec.list l.length fun k => Vec.w l k ||| Vec.w m k
def Vec.addL (l m : List Int) : List Int := Vec.list l.length fun k => Vec.addW (Vec.w l) (Vec.w m) k
def Vec.subL (l m : List Int) : List Int := Vec.list l.length fun k => Vec.subW (Vec.w l) (Vec.w m) k
theorem Vec.fit_ok (l : List Int) (n : Nat) : (Vec.fitL l n).all Vec.ok = true := Vec.list_ok fun k => Nat.lt_of_le_of_lt Nat.and_le_right (Vec.mask_lt n k)
theorem Vec.not_ok (l : List Int) (n : Nat) : (Vec.notL l n).all Vec.ok = true := Vec.list_ok fun k => Nat.lt_of_le_of_lt Nat.and_le_right (Vec.mask_lt n k)
theorem Vec.and_ok {l : List Int} (m : List Int) (h : l.all Vec.ok = true) : (Vec.andL l m).all Vec.ok = true := Vec.list_ok fun k => Nat.lt_of_le_of_lt Nat.and_le_left (Vec.w_lt h k)
theorem Vec.or_ok {l m : List Int} (h : l.all Vec.ok = true) (h' : m.all Vec.ok = true) : (Vec.orL l m).all Vec.ok = true := Vec.list_ok fun k => Nat.or_lt_two_pow (n := 64) (Vec.w_lt h k) (Vec.w_lt h' k)
theorem Vec.add_ok (l m : List Int) : (Vec.addL l m).all Vec.ok = true := Vec.list_ok fun k => Nat.mod_lt _ (by decide)
theorem Vec.sub_ok (l m : List Int) : (Vec.subL l m).all Vec.ok = true := Vec.list_ok fun k => Nat.mod_lt _ (by decide)
theorem Vec.fit_len (l : List Int) (n : Nat) : (Vec.fitL l n).length = Vec.words n := Vec.list_len _ _
theorem Vec.not_len (l : List Int) (n : Nat) : (Vec.notL l n).length = Vec.words n := Vec.list_len _ _
theorem Vec.and_len (l m : List Int) : (Vec.andL l m).length = l.length := Vec.list_len _ _
theorem Vec.or_len (l m : List Int) : (Vec.orL l m).length = l.length := Vec.list_len _ _
theorem Vec.add_len (l m : List Int) : (Vec.addL l m).length = l.length := Vec.list_len _ _
theorem Vec.sub_len (l m : List Int) : (Vec.subL l m).length = l.length := Vec.list_len _ _
def Vec.hyRow (v u : List Int) (n : Nat) : List Int := Vec.fitL (Vec.orL (Vec.addL (Vec.fitL v n) (Vec.andL (Vec.fitL v n) (Vec.fitL u n))) (Vec.subL (Vec.fitL v n) (Vec.andL (Vec.fitL v n) (Vec.fitL u n)))) n
def Vec.crRow (v u : List Int) (n : Nat) : List Int := Vec.fitL (Vec.orL (Vec.addL (Vec.fitL v n) (Vec.andL (Vec.fitL v n) (Vec.fitL u n))) (Vec.andL (Vec.fitL v n) (Vec.notL (Vec.fitL u n) n))) n
theorem Vec.words_le {n : Nat} (h : n ≤ 1000000) : Vec.words n ≤ 20000 := by unfold Vec.words; omega
set_option maxRecDepth 100000 in
set_option maxHeartbeats 4000000 in
/-- hyyro.Row -/
theorem Vec.hyRow_calls (A : Option Addr) (c : Nat) (v : List Int) (B : Option Addr) (d : Nat) (u : List Int) (n : Nat) (w : World) (hr : Kd.C (Kd.int .u64) w A v.length v) (hs : Kd.C (Kd.int .u64) w B u.length u) (hn : n ≤ 1000000) (hv : v.all Vec.ok = true) (hu : u.all Vec.ok = true) :
    Calls Tryz.prog 71 #[.slice A v.length c, .slice B u.length d, .int .i64 (n : Int)] w fun e w' => ∃ z, e = .returned z ∧ Kd.R (Kd.int .u64) 104 w' w.heap.size (fun _ => True) z (Vec.hyRow v u n) ∧ Below w.heap.size w w' := by
  have hN := Vec.words_le hn
  have V := Aside0.mk hr
  have U := Aside0.mk hs
  have HV := Aside0.mk hv
  have HU := Aside0.mk hu
  have HN := Aside0.mk hN
  unfold Vec.hyRow
  clear hr hs hv hu hN
  go_enter Tryz.func71, Tryz.ntmps71
  go_wp2_with fail
  refine (Vec.fit_calls A c v n w V.out hn HV.out).mono ?_
  obtain ⟨L0, e0⟩ : ∃ L_, L_ = Vec.fitL v n := ⟨_, rfl⟩
  have E0 := Aside0.mk e0
  have N0 := Aside0.mk (show L0.length = Vec.words n by rw [e0]; exact Vec.fit_len v n)
  have K0 := Aside0.mk (show L0.all Vec.ok = true by rw [e0]; exact Vec.fit_ok v n)
  clear e0
  rintro e w1 ⟨z_, rfl, ho, hb⟩
  replace ho : Kd.R (Kd.int .u64) 104 w1 w.heap.size (fun _ => True) z_ L0 := by rw [E0.out]; exact ho
  obtain ⟨A0, c0, rfl⟩ := Kd.R_slice ho
  have h_ := (Kd.R_reads' ho).2.2
  have HB := Aside0.mk hb
  replace V := Aside0.mk (Kd.C_below V.out hb)
  replace U := Aside0.mk (Kd.C_below U.out hb)
  have R0 := Aside0.mk h_
  clear ho hb h_
  go_wp2_with fail
  refine (Vec.fit_calls B d u n w1 U.out hn HU.out).mono ?_
  obtain ⟨L1, e1⟩ : ∃ L_, L_ = Vec.fitL u n := ⟨_, rfl⟩
  have E1 := Aside0.mk e1
  have N1 := Aside0.mk (show L1.length = Vec.words n by rw [e1]; exact Vec.fit_len u n)
  have K1 := Aside0.mk (show L1.all Vec.ok = true by rw [e1]; exact Vec.fit_ok u n)
  clear e1
  rintro e w2 ⟨z_, rfl, ho, hb⟩
  replace ho : Kd.R (Kd.int .u64) 104 w2 w1.heap.size (fun _ => True) z_ L1 := by rw [E1.out]; exact ho
  obtain ⟨A1, c1, rfl⟩ := Kd.R_slice ho
  have h_ := (Kd.R_reads' ho).2.2
  have HBp := HB
  replace HB := Aside0.mk (below_step HB.out hb)
  replace V := Aside0.mk (Kd.C_below V.out hb)
  replace U := Aside0.mk (Kd.C_below U.out hb)
  replace R0 := Aside0.mk (Kd.C_below R0.out hb)
  have R1 := Aside0.mk h_
  clear ho hb h_ HBp
  go_wp2_with fail
  refine (Vec.and_calls A0 c0 L0 A1 c1 L1 w2 R0.out R1.out (N1.out.trans N0.out.symm) (by rw [N0.out]; exact HN.out) K0.out K1.out).mono ?_
  obtain ⟨L2, e2⟩ : ∃ L_, L_ = Vec.andL L0 L1 := ⟨_, rfl⟩
  have E2 := Aside0.mk e2
  have N2 := Aside0.mk (show L2.length = Vec.words n by rw [e2]; exact (Vec.and_len _ _).trans N0.out)
  have K2 := Aside0.mk (show L2.all Vec.ok = true by rw [e2]; exact Vec.and_ok _ K0.out)
  clear e2
  rintro e w3 ⟨z_, rfl, ho, hb⟩
  replace ho : Kd.R (Kd.int .u64) 104 w3 w2.heap.size (fun _ => True) z_ L2 := by rw [E2.out]; exact ho
  obtain ⟨A2, c2, rfl⟩ := Kd.R_slice ho
  have h_ := (Kd.R_reads' ho).2.2
  have HBp := HB
  replace HB := Aside0.mk (below_step HB.out hb)
  replace V := Aside0.mk (Kd.C_below V.out hb)
  replace U := Aside0.mk (Kd.C_below U.out hb)
  replace R0 := Aside0.mk (Kd.C_below R0.out hb)
  replace R1 := Aside0.mk (Kd.C_below R1.out hb)
  have R2 := Aside0.mk h_
  clear ho hb h_ HBp
  go_wp2_with fail
  refine (Vec.add_calls A0 c0 L0 A2 c2 L2 w3 R0.out R2.out (N2.out.trans N0.out.symm) (by rw [N0.out]; exact HN.out) K0.out K2.out).mono ?_
  obtain ⟨L3, e3⟩ : ∃ L_, L_ = Vec.addL L0 L2 := ⟨_, rfl⟩
  have E3 := Aside0.mk e3
  have N3 := Aside0.mk (show L3.length = Vec.words n by rw [e3]; exact (Vec.add_len _ _).trans N0.out)
  have K3 := Aside0.mk (show L3.all Vec.ok = true by rw [e3]; exact Vec.add_ok _ _)
  clear e3
  rintro e w4 ⟨z_, rfl, ho, hb⟩
  replace ho : Kd.R (Kd.int .u64) 104 w4 w3.heap.size (fun _ => True) z_ L3 := by rw [E3.out]; exact ho
  obtain ⟨A3, c3, rfl⟩ := Kd.R_slice ho
  have h_ := (Kd.R_reads' ho).2.2
  have HBp := HB
  replace HB := Aside0.mk (below_step HB.out hb)
  replace V := Aside0.mk (Kd.C_below V.out hb)
  replace U := Aside0.mk (Kd.C_below U.out hb)
  replace R0 := Aside0.mk (Kd.C_below R0.out hb)
  replace R1 := Aside0.mk (Kd.C_below R1.out hb)
  replace R2 := Aside0.mk (Kd.C_below R2.out hb)
  have R3 := Aside0.mk h_
  clear ho hb h_ HBp
  go_wp2_with fail
  refine (Vec.sub_calls A0 c0 L0 A2 c2 L2 w4 R0.out R2.out (N2.out.trans N0.out.symm) (by rw [N0.out]; exact HN.out) K0.out K2.out).mono ?_
  obtain ⟨L4, e4⟩ : ∃ L_, L_ = Vec.subL L0 L2 := ⟨_, rfl⟩
  have E4 := Aside0.mk e4
  have N4 := Aside0.mk (show L4.length = Vec.words n by rw [e4]; exact (Vec.sub_len _ _).trans N0.out)
  have K4 := Aside0.mk (show L4.all Vec.ok = true by rw [e4]; exact Vec.sub_ok _ _)
  clear e4
  rintro e w5 ⟨z_, rfl, ho, hb⟩
  replace ho : Kd.R (Kd.int .u64) 104 w5 w4.heap.size (fun _ => True) z_ L4 := by rw [E4.out]; exact ho
  obtain ⟨A4, c4, rfl⟩ := Kd.R_slice ho
  have h_ := (Kd.R_reads' ho).2.2
  have HBp := HB
  replace HB := Aside0.mk (below_step HB.out hb)
  replace V := Aside0.mk (Kd.C_below V.out hb)
  replace U := Aside0.mk (Kd.C_below U.out hb)
  replace R0 := Aside0.mk (Kd.C_below R0.out hb)
  replace R1 := Aside0.mk (Kd.C_below R1.out hb)
  replace R2 := Aside0.mk (Kd.C_below R2.out hb)
  replace R3 := Aside0.mk (Kd.C_below R3.out hb)
  have R4 := Aside0.mk h_
  clear ho hb h_ HBp
  go_wp2_with fail
  refine (Vec.or_calls A3 c3 L3 A4 c4 L4 w5 R3.out R4.out (N4.out.trans N3.out.symm) (by rw [N3.out]; exact HN.out) K3.out K4.out).mono ?_
  obtain ⟨L5, e5⟩ : ∃ L_, L_ = Vec.orL L3 L4 := ⟨_, rfl⟩
  have E5 := Aside0.mk e5
  have N5 := Aside0.mk (show L5.length = Vec.words n by rw [e5]; exact (Vec.or_len _ _).trans N3.out)
  have K5 := Aside0.mk (show L5.all Vec.ok = true by rw [e5]; exact Vec.or_ok K3.out K4.out)
  clear e5
  rintro e w6 ⟨z_, rfl, ho, hb⟩
  replace ho : Kd.R (Kd.int .u64) 104 w6 w5.heap.size (fun _ => True) z_ L5 := by rw [E5.out]; exact ho
  obtain ⟨A5, c5, rfl⟩ := Kd.R_slice ho
  have h_ := (Kd.R_reads' ho).2.2
  have HBp := HB
  replace HB := Aside0.mk (below_step HB.out hb)
  replace V := Aside0.mk (Kd.C_below V.out hb)
  replace U := Aside0.mk (Kd.C_below U.out hb)
  replace R0 := Aside0.mk (Kd.C_below R0.out hb)
  replace R1 := Aside0.mk (Kd.C_below R1.out hb)
  replace R2 := Aside0.mk (Kd.C_below R2.out hb)
  replace R3 := Aside0.mk (Kd.C_below R3.out hb)
  replace R4 := Aside0.mk (Kd.C_below R4.out hb)
  have R5 := Aside0.mk h_
  clear ho hb h_ HBp
  go_wp2_with fail
  refine (Vec.fit_calls A5 c5 L5 n w6 R5.out hn K5.out).mono ?_
  obtain ⟨L6, e6⟩ : ∃ L_, L_ = Vec.fitL L5 n := ⟨_, rfl⟩
  have E6 := Aside0.mk e6
  have N6 := Aside0.mk (show L6.length = Vec.words n by rw [e6]; exact Vec.fit_len _ n)
  have K6 := Aside0.mk (show L6.all Vec.ok = true by rw [e6]; exact Vec.fit_ok _ n)
  clear e6
  rintro e w7 ⟨z_, rfl, ho, hb⟩
  replace ho : Kd.R (Kd.int .u64) 104 w7 w6.heap.size (fun _ => True) z_ L6 := by rw [E6.out]; exact ho
  obtain ⟨A6, c6, rfl⟩ := Kd.R_slice ho
  have h_ := (Kd.R_reads' ho).2.2
  have HBp := HB
  replace HB := Aside0.mk (below_step HB.out hb)
  replace V := Aside0.mk (Kd.C_below V.out hb)
  replace U := Aside0.mk (Kd.C_below U.out hb)
  replace R0 := Aside0.mk (Kd.C_below R0.out hb)
  replace R1 := Aside0.mk (Kd.C_below R1.out hb)
  replace R2 := Aside0.mk (Kd.C_below R2.out hb)
  replace R3 := Aside0.mk (Kd.C_below R3.out hb)
  replace R4 := Aside0.mk (Kd.C_below R4.out hb)
  replace R5 := Aside0.mk (Kd.C_below R5.out hb)
  have R6 := Aside0.mk h_
  have HO := Aside0.mk (Kd.R_lower ho (below_size HBp.out))
  clear ho hb h_ HBp
  go_wp2
  go_ret
  obtain rfl := E0.out
  obtain rfl := E1.out
  obtain rfl := E2.out
  obtain rfl := E3.out
  obtain rfl := E4.out
  obtain rfl := E5.out
  obtain rfl := E6.out
  exact ⟨_, rfl, HO.out, HB.out⟩
set_option maxRecDepth 100000 in
set_option maxHeartbeats 4000000 in
/-- croch.Row -/
theorem Vec.crRow_calls (A : Option Addr) (c : Nat) (v : List Int) (B : Option Addr) (d : Nat) (u : List Int) (n : Nat) (w : World) (hr : Kd.C (Kd.int .u64) w A v.length v) (hs : Kd.C (Kd.int .u64) w B u.length u) (hn : n ≤ 1000000) (hv : v.all Vec.ok = true) (hu : u.all Vec.ok = true) :
    Calls Tryz.prog 73 #[.slice A v.length c, .slice B u.length d, .int .i64 (n : Int)] w fun e w' => ∃ z, e = .returned z ∧ Kd.R (Kd.int .u64) 104 w' w.heap.size (fun _ => True) z (Vec.crRow v u n) ∧ Below w.heap.size w w' := by
  have hN := Vec.words_le hn
  have V := Aside0.mk hr
  have U := Aside0.mk hs
  have HV := Aside0.mk hv
  have HU := Aside0.mk hu
  have HN := Aside0.mk hN
  unfold Vec.crRow
  clear hr hs hv hu hN
  go_enter Tryz.func73, Tryz.ntmps73
  go_wp2_with fail
  refine (Vec.fit_calls A c v n w V.out hn HV.out).mono ?_
  obtain ⟨L0, e0⟩ : ∃ L_, L_ = Vec.fitL v n := ⟨_, rfl⟩
  have E0 := Aside0.mk e0
  have N0 := Aside0.mk (show L0.length = Vec.words n by rw [e0]; exact Vec.fit_len v n)
  have K0 := Aside0.mk (show L0.all Vec.ok = true by rw [e0]; exact Vec.fit_ok v n)
  clear e0
  rintro e w1 ⟨z_, rfl, ho, hb⟩
  replace ho : Kd.R (Kd.int .u64) 104 w1 w.heap.size (fun _ => True) z_ L0 := by rw [E0.out]; exact ho
  obtain ⟨A0, c0, rfl⟩ := Kd.R_slice ho
  have h_ := (Kd.R_reads' ho).2.2
  have HB := Aside0.mk hb
  replace V := Aside0.mk (Kd.C_below V.out hb)
  replace U := Aside0.mk (Kd.C_below U.out hb)
  have R0 := Aside0.mk h_
  clear ho hb h_
  go_wp2_with fail
  refine (Vec.fit_calls B d u n w1 U.out hn HU.out).mono ?_
  obtain ⟨L1, e1⟩ : ∃ L_, L_ = Vec.fitL u n := ⟨_, rfl⟩
  have E1 := Aside0.mk e1
  have N1 := Aside0.mk (show L1.length = Vec.words n by rw [e1]; exact Vec.fit_len u n)
  have K1 := Aside0.mk (show L1.all Vec.ok = true by rw [e1]; exact Vec.fit_ok u n)
  clear e1
  rintro e w2 ⟨z_, rfl, ho, hb⟩
  replace ho : Kd.R (Kd.int .u64) 104 w2 w1.heap.size (fun _ => True) z_ L1 := by rw [E1.out]; exact ho
  obtain ⟨A1, c1, rfl⟩ := Kd.R_slice ho
  have h_ := (Kd.R_reads' ho).2.2
  have HBp := HB
  replace HB := Aside0.mk (below_step HB.out hb)
  replace V := Aside0.mk (Kd.C_below V.out hb)
  replace U := Aside0.mk (Kd.C_below U.out hb)
  replace R0 := Aside0.mk (Kd.C_below R0.out hb)
  have R1 := Aside0.mk h_
  clear ho hb h_ HBp
  go_wp2_with fail
  refine (Vec.and_calls A0 c0 L0 A1 c1 L1 w2 R0.out R1.out (N1.out.trans N0.out.symm) (by rw [N0.out]; exact HN.out) K0.out K1.out).mono ?_
  obtain ⟨L2, e2⟩ : ∃ L_, L_ = Vec.andL L0 L1 := ⟨_, rfl⟩
  have E2 := Aside0.mk e2
  have N2 := Aside0.mk (show L2.length = Vec.words n by rw [e2]; exact (Vec.and_len _ _).trans N0.out)
  have K2 := Aside0.mk (show L2.all Vec.ok = true by rw [e2]; exact Vec.and_ok _ K0.out)
  clear e2
  rintro e w3 ⟨z_, rfl, ho, hb⟩
  replace ho : Kd.R (Kd.int .u64) 104 w3 w2.heap.size (fun _ => True) z_ L2 := by rw [E2.out]; exact ho
  obtain ⟨A2, c2, rfl⟩ := Kd.R_slice ho
  have h_ := (Kd.R_reads' ho).2.2
  have HBp := HB
  replace HB := Aside0.mk (below_step HB.out hb)
  replace V := Aside0.mk (Kd.C_below V.out hb)
  replace U := Aside0.mk (Kd.C_below U.out hb)
  replace R0 := Aside0.mk (Kd.C_below R0.out hb)
  replace R1 := Aside0.mk (Kd.C_below R1.out hb)
  have R2 := Aside0.mk h_
  clear ho hb h_ HBp
  go_wp2_with fail
  refine (Vec.add_calls A0 c0 L0 A2 c2 L2 w3 R0.out R2.out (N2.out.trans N0.out.symm) (by rw [N0.out]; exact HN.out) K0.out K2.out).mono ?_
  obtain ⟨L3, e3⟩ : ∃ L_, L_ = Vec.addL L0 L2 := ⟨_, rfl⟩
  have E3 := Aside0.mk e3
  have N3 := Aside0.mk (show L3.length = Vec.words n by rw [e3]; exact (Vec.add_len _ _).trans N0.out)
  have K3 := Aside0.mk (show L3.all Vec.ok = true by rw [e3]; exact Vec.add_ok _ _)
  clear e3
  rintro e w4 ⟨z_, rfl, ho, hb⟩
  replace ho : Kd.R (Kd.int .u64) 104 w4 w3.heap.size (fun _ => True) z_ L3 := by rw [E3.out]; exact ho
  obtain ⟨A3, c3, rfl⟩ := Kd.R_slice ho
  have h_ := (Kd.R_reads' ho).2.2
  have HBp := HB
  replace HB := Aside0.mk (below_step HB.out hb)
  replace V := Aside0.mk (Kd.C_below V.out hb)
  replace U := Aside0.mk (Kd.C_below U.out hb)
  replace R0 := Aside0.mk (Kd.C_below R0.out hb)
  replace R1 := Aside0.mk (Kd.C_below R1.out hb)
  replace R2 := Aside0.mk (Kd.C_below R2.out hb)
  have R3 := Aside0.mk h_
  clear ho hb h_ HBp
  go_wp2_with fail
  refine (Vec.not_calls A1 c1 L1 n w4 R1.out hn K1.out).mono ?_
  obtain ⟨L4, e4⟩ : ∃ L_, L_ = Vec.notL L1 n := ⟨_, rfl⟩
  have E4 := Aside0.mk e4
  have N4 := Aside0.mk (show L4.length = Vec.words n by rw [e4]; exact Vec.not_len _ n)
  have K4 := Aside0.mk (show L4.all Vec.ok = true by rw [e4]; exact Vec.not_ok _ n)
  clear e4
  rintro e w5 ⟨z_, rfl, ho, hb⟩
  replace ho : Kd.R (Kd.int .u64) 104 w5 w4.heap.size (fun _ => True) z_ L4 := by rw [E4.out]; exact ho
  obtain ⟨A4, c4, rfl⟩ := Kd.R_slice ho
  have h_ := (Kd.R_reads' ho).2.2
  have HBp := HB
  replace HB := Aside0.mk (below_step HB.out hb)
  replace V := Aside0.mk (Kd.C_below V.out hb)
  replace U := Aside0.mk (Kd.C_below U.out hb)
  replace R0 := Aside0.mk (Kd.C_below R0.out hb)
  replace R1 := Aside0.mk (Kd.C_below R1.out hb)
  replace R2 := Aside0.mk (Kd.C_below R2.out hb)
  replace R3 := Aside0.mk (Kd.C_below R3.out hb)
  have R4 := Aside0.mk h_
  clear ho hb h_ HBp
  go_wp2_with fail
  refine (Vec.and_calls A0 c0 L0 A4 c4 L4 w5 R0.out R4.out (N4.out.trans N0.out.symm) (by rw [N0.out]; exact HN.out) K0.out K4.out).mono ?_
  obtain ⟨L5, e5⟩ : ∃ L_, L_ = Vec.andL L0 L4 := ⟨_, rfl⟩
  have E5 := Aside0.mk e5
  have N5 := Aside0.mk (show L5.length = Vec.words n by rw [e5]; exact (Vec.and_len _ _).trans N0.out)
  have K5 := Aside0.mk (show L5.all Vec.ok = true by rw [e5]; exact Vec.and_ok _ K0.out)
  clear e5
  rintro e w6 ⟨z_, rfl, ho, hb⟩
  replace ho : Kd.R (Kd.int .u64) 104 w6 w5.heap.size (fun _ => True) z_ L5 := by rw [E5.out]; exact ho
  obtain ⟨A5, c5, rfl⟩ := Kd.R_slice ho
  have h_ := (Kd.R_reads' ho).2.2
  have HBp := HB
  replace HB := Aside0.mk (below_step HB.out hb)
  replace V := Aside0.mk (Kd.C_below V.out hb)
  replace U := Aside0.mk (Kd.C_below U.out hb)
  replace R0 := Aside0.mk (Kd.C_below R0.out hb)
  replace R1 := Aside0.mk (Kd.C_below R1.out hb)
  replace R2 := Aside0.mk (Kd.C_below R2.out hb)
  replace R3 := Aside0.mk (Kd.C_below R3.out hb)
  replace R4 := Aside0.mk (Kd.C_below R4.out hb)
  have R5 := Aside0.mk h_
  clear ho hb h_ HBp
  go_wp2_with fail
  refine (Vec.or_calls A3 c3 L3 A5 c5 L5 w6 R3.out R5.out (N5.out.trans N3.out.symm) (by rw [N3.out]; exact HN.out) K3.out K5.out).mono ?_
  obtain ⟨L6, e6⟩ : ∃ L_, L_ = Vec.orL L3 L5 := ⟨_, rfl⟩
  have E6 := Aside0.mk e6
  have N6 := Aside0.mk (show L6.length = Vec.words n by rw [e6]; exact (Vec.or_len _ _).trans N3.out)
  have K6 := Aside0.mk (show L6.all Vec.ok = true by rw [e6]; exact Vec.or_ok K3.out K5.out)
  clear e6
  rintro e w7 ⟨z_, rfl, ho, hb⟩
  replace ho : Kd.R (Kd.int .u64) 104 w7 w6.heap.size (fun _ => True) z_ L6 := by rw [E6.out]; exact ho
  obtain ⟨A6, c6, rfl⟩ := Kd.R_slice ho
  have h_ := (Kd.R_reads' ho).2.2
  have HBp := HB
  replace HB := Aside0.mk (below_step HB.out hb)
  replace V := Aside0.mk (Kd.C_below V.out hb)
  replace U := Aside0.mk (Kd.C_below U.out hb)
  replace R0 := Aside0.mk (Kd.C_below R0.out hb)
  replace R1 := Aside0.mk (Kd.C_below R1.out hb)
  replace R2 := Aside0.mk (Kd.C_below R2.out hb)
  replace R3 := Aside0.mk (Kd.C_below R3.out hb)
  replace R4 := Aside0.mk (Kd.C_below R4.out hb)
  replace R5 := Aside0.mk (Kd.C_below R5.out hb)
  have R6 := Aside0.mk h_
  clear ho hb h_ HBp
  go_wp2_with fail
  refine (Vec.fit_calls A6 c6 L6 n w7 R6.out hn K6.out).mono ?_
  obtain ⟨L7, e7⟩ : ∃ L_, L_ = Vec.fitL L6 n := ⟨_, rfl⟩
  have E7 := Aside0.mk e7
  have N7 := Aside0.mk (show L7.length = Vec.words n by rw [e7]; exact Vec.fit_len _ n)
  have K7 := Aside0.mk (show L7.all Vec.ok = true by rw [e7]; exact Vec.fit_ok _ n)
  clear e7
  rintro e w8 ⟨z_, rfl, ho, hb⟩
  replace ho : Kd.R (Kd.int .u64) 104 w8 w7.heap.size (fun _ => True) z_ L7 := by rw [E7.out]; exact ho
  obtain ⟨A7, c7, rfl⟩ := Kd.R_slice ho
  have h_ := (Kd.R_reads' ho).2.2
  have HBp := HB
  replace HB := Aside0.mk (below_step HB.out hb)
  replace V := Aside0.mk (Kd.C_below V.out hb)
  replace U := Aside0.mk (Kd.C_below U.out hb)
  replace R0 := Aside0.mk (Kd.C_below R0.out hb)
  replace R1 := Aside0.mk (Kd.C_below R1.out hb)
  replace R2 := Aside0.mk (Kd.C_below R2.out hb)
  replace R3 := Aside0.mk (Kd.C_below R3.out hb)
  replace R4 := Aside0.mk (Kd.C_below R4.out hb)
  replace R5 := Aside0.mk (Kd.C_below R5.out hb)
  replace R6 := Aside0.mk (Kd.C_below R6.out hb)
  have R7 := Aside0.mk h_
  have HO := Aside0.mk (Kd.R_lower ho (below_size HBp.out))
  clear ho hb h_ HBp
  go_wp2
  go_ret
  obtain rfl := E0.out
  obtain rfl := E1.out
  obtain rfl := E2.out
  obtain rfl := E3.out
  obtain rfl := E4.out
  obtain rfl := E5.out
  obtain rfl := E6.out
  obtain rfl := E7.out
  exact ⟨_, rfl, HO.out, HB.out⟩
/-! a list of rows of bits, in memory: no two rows in one block -/
abbrev Rows.kd : Kd (List Int) := Kd.slice 104 (Kd.int .u64)
def Rows (W : World) (base : Nat) (v : Value) (rs : List (List Int)) : Prop := Kd.S Rows.kd 62 W base (fun _ => True) v rs
theorem Rows.one {W : World} {base g : Nat} {z : Value} {r : List Int} (hb : base ≤ g) (hg : W.heap[g]? = some (.cells #[z] 62 (0, 0))) (hz : Kd.R (Kd.int .u64) 104 W base (fun k => k ≠ g) z r) : Rows W base (.slice (some ⟨g, 0, none⟩) 1 1) [r] := by
  refine ⟨fun _ => 0, fun _ _ => trivial, [z], ⟨rfl, .inr ⟨g, 1, _, rfl, hb, hg, Nat.le_refl _, by decide, rfl, rfl⟩⟩, rfl, fun j p hj => ?_⟩
  match j, hj with
  | 0, hj =>
    have : p = (r, 0) := by simpa using hj.symm
    subst this
    refine ⟨z, rfl, Kd.R_mono hz fun k hk => ⟨⟨trivial, fun e => hk ?_⟩, rfl⟩⟩
    simpa [Value.ownBlock] using e
  | j + 1, hj => simp at hj
theorem Rows.app {base N0 : Nat} {W W1 : World} {v v1 z : Value} {rs : List (List Int)} {r : List Int} {inner : List Value} {f : Nat → Nat} (h0 : ∀ k, v.ownBlock = some k → k < N0)
    (hr : Reps ((Kd.tag f Rows.kd).M W base (fun k => k < N0 ∧ some k ≠ v.ownBlock)) 1 rs.zipIdx inner) (hz : Kd.R (Kd.int .u64) 104 W base (fun k => N0 ≤ k) z r) (hown : W1.ownsRow base 62 1 v1 (rs.length + 1) (inner ++ [z])) (hg : W.grownBy W1 v.ownBlock)
    (hat : v1.ownBlock = v.ownBlock ∨ ∃ b, v1.ownBlock = some b ∧ W.heap.size ≤ b) : Rows W1 base v1 (rs ++ [r]) := by
  refine ⟨fun k => if N0 ≤ k then rs.length else f k, ?_⟩
  rw [Kd.zip_snoc]
  refine Kd.R_appended (d := Kd.tag (fun k => if N0 ≤ k then rs.length else f k) Rows.kd) (ok := fun _ => True) (okp := fun k => N0 ≤ k) (fun _ _ => trivial) (hr.imp_ fun x cs hx => ?_) (cs := [z]) ?_ (fun k hk => ⟨trivial, fun e => by have := h0 k e.symm; omega⟩) (fun _ _ => trivial) (by rw [List.length_zipIdx]; exact hown) hg hat
  · exact Rows.kd.M_mono (fun k hk => ⟨⟨trivial, hk.1.2⟩, by show (if N0 ≤ k then _ else _) = _; rw [if_neg (by have := hk.1.1; omega)]; exact hk.2⟩) hx
  · exact ⟨z, rfl, Kd.R_mono hz fun k hk => ⟨hk, by show (if N0 ≤ k then _ else _) = _; rw [if_pos hk]⟩⟩
/-- What is read of a row. -/
theorem Rows.at {W : World} {base n cap : Nat} {ad : Option Addr} {rs : List (List Int)} (h : Rows W base (.slice ad n cap) rs) (i : Nat) (hi : i < rs.length) : ∃ g A c, ad = some ⟨g, 0, none⟩ ∧ W.cell? ⟨g, i, none⟩ = some (.slice A (rs.getD i []).length c) ∧ (rs.getD i []).length ≤ c ∧ Kd.C (Kd.int .u64) W A (rs.getD i []).length (rs.getD i []) := by
  have hR := Kd.S_R h
  obtain ⟨e, hc, _⟩ := Kd.R_reads' hR
  subst e
  obtain ⟨g, cap', e, _⟩ := Kd.R_form hR (by omega)
  injection e with e1 _ e2
  subst e1
  obtain ⟨cs, hl, hM, hcell, _⟩ := Kd.R_elem hR [] (i : Int) (by omega) (by omega)
  obtain ⟨u, rfl, hu⟩ := hM
  obtain ⟨A, c, rfl⟩ := Kd.R_slice hu
  have h2 := Kd.R_reads' hu
  rw [Int.toNat_natCast] at *
  refine ⟨g, A, c, rfl, ?_, h2.2.1, h2.2.2⟩
  have := hcell 0 _ rfl
  simpa [Kd.slice] using this
theorem Rows.below {W W' : World} {base : Nat} {v : Value} {rs : List (List Int)} (h : Rows W base v rs) (hb : Below W.heap.size W W') : Rows W' base v rs := Kd.S_below h hb
def Vec.ones (n : Nat) : List Int := Vec.notL [] n
def Vec.rowAt (rf : List Int → List Int → Nat → List Int) (a b : List Int) : Nat → List Int
  | 0 => Vec.ones b.length
  | i + 1 => rf (Vec.rowAt rf a b i) (Mask.row b (rd a (i : Int)) b.length (Vec.words b.length)) b.length
def Vec.rows (rf : List Int → List Int → Nat → List Int) (a b : List Int) (i : Nat) : List (List Int) := (List.range (i + 1)).map (Vec.rowAt rf a b)
theorem Vec.rows_len (rf : List Int → List Int → Nat → List Int) (a b : List Int) (i : Nat) : (Vec.rows rf a b i).length = i + 1 := by simp [Vec.rows]
theorem Vec.rows_at (rf : List Int → List Int → Nat → List Int) (a b : List Int) {i j : Nat} (h : j ≤ i) : (Vec.rows rf a b i).getD j [] = Vec.rowAt rf a b j := by
  unfold Vec.rows
  rw [List.getD_eq_getElem?_getD, List.getElem?_map, List.getElem?_range (by omega)]
  rfl
theorem Vec.rows_snoc (rf : List Int → List Int → Nat → List Int) (a b : List Int) (i : Nat) : Vec.rows rf a b i ++ [Vec.rowAt rf a b (i + 1)] = Vec.rows rf a b (i + 1) := by
  unfold Vec.rows
  rw [List.range_succ (n := i + 1), List.map_append]
  rfl
theorem Vec.hy_ok (a b : List Int) : ∀ i, (Vec.rowAt Vec.hyRow a b i).all Vec.ok = true ∧ (Vec.rowAt Vec.hyRow a b i).length = Vec.words b.length
  | 0 => ⟨Vec.not_ok _ _, Vec.not_len _ _⟩
  | i + 1 => ⟨Vec.fit_ok _ _, Vec.fit_len _ _⟩
theorem Vec.cr_ok (a b : List Int) : ∀ i, (Vec.rowAt Vec.crRow a b i).all Vec.ok = true ∧ (Vec.rowAt Vec.crRow a b i).length = Vec.words b.length
  | 0 => ⟨Vec.not_ok _ _, Vec.not_len _ _⟩
  | i + 1 => ⟨Vec.fit_ok _ _, Vec.fit_len _ _⟩
set_option maxRecDepth 100000 in
set_option maxHeartbeats 4000000 in
/-- vec.Ones -/
theorem Vec.ones_calls (n : Nat) (w : World) (hn : n ≤ 1000000) : Calls Tryz.prog 70 #[.int .i64 (n : Int)] w fun e w' => ∃ v, e = .returned v ∧ Kd.R (Kd.int .u64) 104 w' w.heap.size (fun _ => True) v (Vec.ones n) ∧ Below w.heap.size w w' := by
  go_enter Tryz.func70, Tryz.ntmps70
  go_wp2_with fail
  refine (Vec.not_calls none 0 [] n w (Kd.C_nil _ _) hn rfl).mono ?_
  rintro e w' ⟨v, rfl, hv, hb⟩
  have HV := Aside0.mk hv
  have HB := Aside0.mk hb
  clear hv hb
  go_wp2
  go_ret
  exact ⟨_, rfl, HV.out, HB.out⟩
/-- append to a row of one's own, not nil: the cells that were there read as before, whether it grew in its place or moved. -/
theorem App.cells {P : Program} (w : World) (t ty e : TypeId) (i : TypeInfo) (z : Value) (bytes : Nat) (ht : P.underlying t = some (.slice e)) (hi : P.info? e = some i) (hz : i.zero = some z) (hsize : i.size = 1) (hby : i.bytes = bytes)
    (base g n cap : Nat) (xs : List Value) (hown : w.ownsRow base e 1 (.slice (some ⟨g, 0, none⟩) n cap) n xs) (ad : Addr) (m c : Nat) (news : List Value) (hl : news.length = m) (hnews : ∀ j u, news[j]? = some u → w.cell? (ad.add j) = some u) (h1 : ∀ u ∈ news, u.oneCell' = true)
    (hm : 0 < m) (h63 : n + m ≤ maxLen) (hbytes : (n + m) * bytes ≤ 140737488355328) {v' : Value} {w' : World} (hr : (Builtin.append_ #[t, t] ty #[.slice (some ⟨g, 0, none⟩) n cap, .slice (some ad) m c]).run P w = .ok v' w') :
    ∀ j, j < n → w'.cell? ⟨g, j, none⟩ = w.cell? ⟨g, j, none⟩ := by
  intro j hj
  have hx := hown.1
  rcases hown.2 with ⟨he, _⟩ | ⟨g', cap', cur, he, hbg, hg, hnc, hcm, hcs, htake⟩
  · injection he with he; exact absurd he (by simp)
  · injection he with e1 _ e2
    injection e1 with e1
    injection e1 with e1
    subst e1 e2
    rw [Nat.mul_one] at hcs htake hx
    by_cases hroom : n + m ≤ cap
    · rw [run_append_room (P := P) w t ty e i ht hi g n cap cur hg ad m c news (by rw [hsize, Nat.mul_one]; exact hl) hnews h1 hroom (by rw [hsize]; omega)] at hr
      injection hr with _ hw
      subst hw
      rw [blk_cell (setRow_heap w g cur _ e _ hg) j, blk_cell hg j, hsize, Nat.mul_one]
      simp [List.getElem?_append, List.getElem?_take, hj, hcs, show j < cap by omega]
      intro hmin
      omega
    · have holds : ∀ j u, xs[j]? = some u → w.cell? ((⟨g, 0, none⟩ : Addr).add j) = some u := hown.cells (g := g) rfl
      have hf : Builtin.nextslicecap (n + m) cap * i.bytes ≤ 281474976710656 := by rw [hby]; exact growslice_fits (by omega) hbytes
      rw [run_append_grow (P := P) w t ty e i z ht hi hz ⟨g, 0, none⟩ n cap xs (by rw [hsize, Nat.mul_one]; exact hx) holds ad m c news (by rw [hsize, Nat.mul_one]; exact hl) hnews (by omega) (by unfold maxLen at h63; omega) hf] at hr
      injection hr with _ hw
      subst hw
      rw [blk_cell (blk_alloc (blk_drew hg) _) j, blk_cell hg j]
/-- .. at a step of a region that draws its order. -/
theorem App.step {P : Program} (w : World) {ops : Array Oper} {o : Oper} {a : Act} {K : Act → World → Prop} {Q : Exit → Act → World → Prop} {E : Prop} (hgd : o.guard = none) (s x : Operand) (t : TypeId)
    (ho : o.op = .call { callee := .builtin .append, args := #[s, x], argTypes := #[t, t] })
    (base : Nat) (e : TypeId) (i : TypeInfo) (z : Value) (bytes : Nat) (ht : P.underlying t = some (.slice e)) (hi : P.info? e = some i) (hz : i.zero = some z) (hsize : i.size = 1) (hby : i.bytes = bytes) (hzs : z.cells.size = 1)
    (g0 n cap0 : Nat) (xs : List Value) (hs : a.eval s = .slice (some ⟨g0, 0, none⟩) n cap0) (hown : w.ownsRow base e 1 (.slice (some ⟨g0, 0, none⟩) n cap0) n xs)
    (ad : Addr) (u : Value) (hx : a.eval x = .slice (some ad) 1 1) (hu : w.cell? ad = some u) (h1 : u.oneCell' = true)
    (h63 : n + 1 ≤ maxLen) (hbytes : (n + 1) * bytes ≤ 140737488355328) (hbase : base ≤ w.heap.size) (H : Nat) (hH : w.heap.size = H)
    (h : ∀ g cap w', w'.ownsRow base e 1 (.slice (some ⟨g, 0, none⟩) (n + 1) cap) (n + 1) (xs ++ [u]) → w.grownBy w' (some g0) → (g0 = g ∨ g = H) → g < w'.heap.size → (∀ j, j < n → w'.cell? ⟨g0, j, none⟩ = w.cell? ⟨g0, j, none⟩) → K (a.put o.dst (.slice (some ⟨g, 0, none⟩) (n + 1) cap)) w') :
    if Region.wanted o (yielded ops a.tmps) = true then Oper.wp P o a w K Q else E := by
  have hw : Region.wanted o (yielded ops a.tmps) = true := by simp [Region.wanted, hgd]
  rw [if_pos hw]
  have hnews : ∀ (j : Nat) (y : Value), [u][j]? = some y → w.cell? (ad.add j) = some y := by
    intro j y hy
    match j, hy with
    | 0, hy =>
      simp at hy; subst hy
      have : ad.add 0 = ad := by unfold Addr.add; split <;> simp_all
      rw [this]; exact hu
    | j + 1, hy => simp at hy
  obtain ⟨g, cap, w', hr, h2, h3, h4, h5⟩ := run_append_lies (P := P) w t o.type base e i z 1 bytes ht hi hz hsize hby hzs (by omega) _ n xs hown ad 1 1 [u] (by simp) hnews (by simpa using h1) (by omega) h63 hbytes hbase H hH
  have h6 := App.cells w t o.type e i z bytes ht hi hz hsize hby base g0 n cap0 xs hown ad 1 1 [u] rfl hnews (by simpa using h1) (by omega) h63 hbytes hr
  unfold Oper.wp execOp
  simp only [ho, resolve, invoke, builtin, Sem.run_bind, Sem.run_pure, Result.andThen_ok, List.map_toArray, List.map_cons, List.map_nil, hs, hx, hr]
  exact h g cap w' h2 h3 (h4.imp (fun e => by simpa [Value.ownBlock] using e) id) h5 h6
theorem Rows.inf62 : (Tryz.prog.info? 62).map (fun i => (i.zero, i.size, i.bytes)) = some (some (.slice none 0 0), 1, 24) := by kernel_rfl
set_option maxRecDepth 100000 in
set_option maxHeartbeats 4000000 in
/-- hyyro.Rows -/
theorem Vec.hyRows_calls (A : Option Addr) (c : Nat) (a : List Int) (B : Option Addr) (d : Nat) (b : List Int) (w : World) (ha : Kd.C (Kd.int .i64) w A a.length a) (hb : Kd.C (Kd.int .i64) w B b.length b) (hd : b.length ≤ d) (hla : a.length ≤ 1000000) (hlb : b.length ≤ 1000000) (hwa : ∀ x ∈ a, (Lit.int .i64 x).wf = true) (hwb : ∀ x ∈ b, (Lit.int .i64 x).wf = true) :
    Calls Tryz.prog 28 #[.slice A a.length c, .slice B b.length d] w fun e w' => ∃ v, e = .returned v ∧ Rows w' w.heap.size v (Vec.rows Vec.hyRow a b a.length) ∧ Below w.heap.size w w' := by
  have HA := Aside0.mk ha
  have HBb := Aside0.mk hb
  have HD := Aside0.mk hd
  have WA := Aside0.mk hwa
  have WB := Aside0.mk hwb
  obtain ⟨N, eN⟩ : ∃ N, N = Vec.words b.length := ⟨_, rfl⟩
  have hN : N ≤ 20000 := by rw [eN]; exact Vec.words_le hlb
  have EN := Aside0.mk eN
  clear ha hb hd hwa hwb eN
  go_enter Tryz.func28, Tryz.ntmps28
  go_wp2_with fail
  refine (Mask.new_calls B d b w HBb.out HD.out hlb WB.out).mono ?_
  rintro e w1 ⟨p, rfl, hp, hb⟩
  have HP := Aside0.mk hp
  have HB := Aside0.mk hb
  clear hp hb
  go_wp2_with fail
  refine (Vec.ones_calls b.length w1 hlb).mono ?_
  rintro e w2 ⟨z, rfl, hz, hb⟩
  obtain ⟨Az, cz, rfl⟩ := Kd.R_slice hz
  have hl0 : (Vec.ones b.length).length = N := by rw [EN.out]; exact Vec.not_len _ _
  have hz2 := Kd.R_bound hz
  have HN1 := Aside0.mk hb
  have HZ := Aside0.mk hz2
  clear hz hb hz2
  rw [hl0] at HZ ⊢
  clear hl0
  go_wp2_with fail
  have hg3 : (w2.alloc (.cells #[.slice Az N cz] 62)).heap[w2.heap.size]? = some (.cells #[.slice Az N cz] 62 (0, 0)) := blk_new _ _
  have hr3 : Rows (w2.alloc (.cells #[.slice Az N cz] 62)) w1.heap.size (.slice (some ⟨w2.heap.size, 0, none⟩) 1 1) (Vec.rows Vec.hyRow a b 0) :=
    Rows.one (below_size HN1.out) hg3 (Kd.R_alloc (Kd.R_mono HZ.out (fun k hk => by have := hk.2.2.1; omega)) _)
  replace HN1 := Aside0.mk (below_step HN1.out ((Below.refl _ _).alloc (Nat.le_refl _) (.cells #[.slice Az N cz] 62)))
  have HRS := Aside0.mk hr3
  clear hg3 hr3 HZ
  generalize w2.alloc (.cells #[.slice Az N cz] 62) = w3 at *
  generalize Value.slice (some ⟨w2.heap.size, 0, none⟩) 1 1 = v0 at *
  obtain ⟨i0, hi0, hz0⟩ := Option.map_eq_some_iff.1 Rows.inf62
  simp only [Prod.mk.injEq] at hz0
  obtain ⟨hz0, hz1, hz2⟩ := hz0
  have I0 := Aside0.mk hi0
  have I1 := Aside0.mk hz0
  have I2 := Aside0.mk hz1
  have I3 := Aside0.mk hz2
  clear hi0 hz0 hz1 hz2
  go_loopw [6, 17] (fun v i wr => ∃ k : Nat, k ≤ a.length ∧ i = .int .i64 k ∧ Aside0 (Rows wr w1.heap.size v (Vec.rows Vec.hyRow a b k)) ∧ Aside0 (Below w1.heap.size w1 wr)) (fun v i _ => a.length - (intOf i).toNat)
  case atStart => exact ⟨0, Nat.zero_le _, rfl, HRS, HN1⟩
  case round =>
    clear HRS HN1
    obtain ⟨k, hk, rfl, HRS, HN1⟩ := hrel
    obtain ⟨Av, cv, rfl⟩ := Kd.S_slice HRS.out
    have hln := Vec.rows_len Vec.hyRow a b k
    rw [hln] at HRS ⊢
    clear hln
    by_cases hlt : k < a.length
    · obtain ⟨ad, ea, hx⟩ := Kd.at_int (Kd.C_below HA.out (below_step HB.out HN1.out)) (k : Int) (by omega) (by omega)
      subst ea
      rw [Int.toNat_natCast] at hx
      have hxw : (Lit.int .i64 (rd a (k : Int))).wf = true := by
        have e : rd a (k : Int) = a[k] := by unfold rd; simp [hlt]
        rw [e]; exact WA.out _ (List.getElem_mem hlt)
      obtain ⟨x, ex⟩ : ∃ x, x = rd a (k : Int) := ⟨_, rfl⟩
      rw [← ex] at hx hxw
      obtain ⟨g, Ar, cr, ea, hcell, hcl, hrd⟩ := Rows.at HRS.out k (by rw [Vec.rows_len]; omega)
      subst ea
      rw [Vec.rows_at _ _ _ (Nat.le_refl k)] at hcell hcl hrd
      obtain ⟨hok, hlen⟩ := Vec.hy_ok a b k
      obtain ⟨R, eR⟩ : ∃ R, R = Vec.rowAt Vec.hyRow a b k := ⟨_, rfl⟩
      rw [← eR] at hcell hcl hrd hok hlen
      rw [← EN.out] at hlen
      rw [hlen] at hcell
      have EX := Aside0.mk ex
      have ER := Aside0.mk eR
      have HOK := Aside0.mk hok
      have HLN := Aside0.mk hlen
      rw [hlen] at hrd
      have HRDL := Aside0.mk (fun (w5 : World) (hb : Below wr.heap.size wr w5) => Kd.C_below hrd hb)
      have hk0 : (0 : Int) ≤ (k : Int) := Int.natCast_nonneg _
      have hk1 : (k : Int) < (k : Int) + 1 := by omega
      have HXW := Aside0.mk hxw
      have hgl := World.block_lt_of_cell? wr _ hcell
      have HGL := Aside0.mk hgl
      have HC0 := Aside0.mk hcell
      clear ex eR hok hlen hrd hxw hcl
      go_wp2_with fail
      clear hx
      go_region_held3 (fun w' => w'.cell? ⟨g, k, none⟩ = some (.slice Ar N cr)) (go_keep) (first
        | (go_at_call 72; (with_reducible refine (Mask.of_calls p b x wr.drew (HP.out.below (below_drew HN1.out)) hlb HXW.out).mono ?_); rintro e w5 ⟨z1, rfl, h1, hb1⟩; obtain ⟨A1, c1, rfl⟩ := Kd.R_slice h1; rw [Mask.row_len, ← EN.out]; have H1 := Aside0.mk h1; have HB1 := Aside0.mk (below_step (below_drew (Below.refl wr.heap.size wr)) hb1); have hcell1 := (HB1.out.cell (p := ⟨g, k, none⟩) HGL.out).trans HC0.out; clear h1 hb1)
        | (go_at_call 71; have R1 := (Kd.R_reads' H1.out).2.2; have hc_ := Vec.hyRow_calls Ar cr R A1 c1 _ b.length w5 (by rw [HLN.out]; exact HRDL.out w5 HB1.out) R1 hlb HOK.out (Mask.row_ok _ _ _ _); rw [HLN.out, Mask.row_len, ← EN.out] at hc_; (with_reducible refine hc_.mono ?_); clear hc_ R1; rintro e w6 ⟨z2, rfl, h2, hb2⟩; have HB2 := Aside0.mk (below_step HB1.out hb2); have hcell2 := (HB2.out.cell (p := ⟨g, k, none⟩) HGL.out).trans HC0.out; obtain ⟨A2, c2, rfl⟩ := Kd.R_slice h2; have el_ : (Vec.hyRow R (Mask.row b x b.length N) b.length).length = N := (Vec.fit_len _ _).trans EN.out.symm; rw [el_] at h2 ⊢; have hn_ : Kd.R (Kd.int .u64) 104 (w6.alloc (.cells #[.slice A2 N c2] 62)) w1.heap.size (fun q => wr.heap.size ≤ q) (.slice A2 N c2) _ := Kd.R_alloc (Kd.R_lower (Kd.R_mono (Kd.R_bound h2) (fun q hq => Nat.le_trans HB1.out.size hq.2.1)) (Nat.le_trans (below_size HN1.out) HB1.out.size)) _; have HNW := Aside0.mk hn_; have hS_ := Kd.S_old HRS.out (below_step HB2.out ((Below.refl w6.heap.size w6).alloc (Nat.le_refl _) (.cells #[.slice A2 N c2] 62))); obtain ⟨f_, h0S, inner, hoS, hrS⟩ := hS_; rw [List.length_zipIdx, Vec.rows_len] at hoS; have HOS := Aside0.mk hoS; have HRP := Aside0.mk hrS; have H0S := Aside0.mk h0S; have LW := Aside0.mk (show w1.heap.size ≤ w6.heap.size from Nat.le_trans (below_size HN1.out) HB2.out.size); have lt6 : g < w6.heap.size := Nat.lt_of_lt_of_le HGL.out HB2.out.size; clear h2 hb2 el_ hn_ hoS hrS h0S)
        | (refine App.step _ (by rfl) _ _ _ (by rfl) w1.heap.size 62 i0 _ 24 Tryz.underlying59 I0.out I1.out I2.out I3.out rfl g (k + 1) cv inner (by rfl) HOS.out ⟨w6.heap.size, 0, none⟩ (.slice A2 N c2) (by rfl) (by exact (blk_cell (blk_new w6 _) 0).trans rfl) rfl (by unfold maxLen; omega) (by omega) (by have := LW.out; simp; omega) (w6.heap.size + 1) (by simp) ?_; intro gg cap w7 hown7 hgrow7 hat7 hlt7 hkeep7; have HO7 := Aside0.mk hown7; have HG7 := Aside0.mk hgrow7; have HA7 := Aside0.mk hat7; have hcell7 := (hkeep7 k (by omega)).trans ((((Below.refl w6.heap.size w6).alloc (Nat.le_refl _) _).cell (p := ⟨g, k, none⟩) lt6).trans hcell2); clear hown7 hgrow7 hat7 hkeep7)
        | fail)
      have hrows : Rows w7 w1.heap.size (.slice (some ⟨gg, 0, none⟩) (k + 1 + 1) cap) (Vec.rows Vec.hyRow a b (k + 1)) := by
        have h := Rows.app (N0 := wr.heap.size) (f := f_) (fun q hq => (H0S.out q hq).2) (HRP.out.imp_ fun x cs hx => Rows.kd.M_mono (fun q hq => ⟨⟨hq.1.1.2, hq.1.2⟩, hq.2⟩) hx) HNW.out (by rw [Vec.rows_len]; exact HO7.out) HG7.out (by
          rcases HA7.out with h | h
          · exact Or.inl (by simp [Value.ownBlock, h])
          · exact Or.inr ⟨gg, rfl, by rw [h]; exact Nat.le_of_eq (World.size_alloc _ _)⟩)
        rw [ER.out, EX.out, EN.out] at h
        have e := Vec.rows_snoc Vec.hyRow a b k
        rw [← e]
        exact h
      have hb6 : Below w1.heap.size w1 (w6.alloc (.cells #[.slice A2 N c2] 62)) := below_step HN1.out (below_step HB2.out ((Below.refl w6.heap.size w6).alloc (Nat.le_refl _) _))
      have hgb := Kd.S_base HRS.out g rfl
      have hb7 : Below w1.heap.size w1 w7 := hb6.grown HG7.out hb6.size (fun q hq => by injection hq with hq; rw [← hq]; exact hgb)
      have HR7 := Aside0.mk hrows
      have HB7 := Aside0.mk hb7
      clear hrows hb6 hgb hb7 HG7 HA7 hlt7 HO7 HNW HOS HRP H0S LW lt6 H1 HB1 HB2 HRDL HC0 HGL HXW HLN HOK ER EX HRS HN1 hcell1 hcell2 hcell7 hcell hgl
      go_wp2
      go_roundw
      case rel => exact ⟨k + 1, by omega, by go_num, HR7, HB7⟩
      case measure => simp [intOf]; omega
    · have ek : k = a.length := by omega
      subst ek
      clear hk hlt
      go_wp2
      go_ret
      exact ⟨_, rfl, Kd.S_lower HRS.out (below_size HB.out), below_step HB.out HN1.out⟩
set_option maxRecDepth 100000 in
set_option maxHeartbeats 4000000 in
/-- croch.Rows -/
theorem Vec.crRows_calls (A : Option Addr) (c : Nat) (a : List Int) (B : Option Addr) (d : Nat) (b : List Int) (w : World) (ha : Kd.C (Kd.int .i64) w A a.length a) (hb : Kd.C (Kd.int .i64) w B b.length b) (hd : b.length ≤ d) (hla : a.length ≤ 1000000) (hlb : b.length ≤ 1000000) (hwa : ∀ x ∈ a, (Lit.int .i64 x).wf = true) (hwb : ∀ x ∈ b, (Lit.int .i64 x).wf = true) :
    Calls Tryz.prog 29 #[.slice A a.length c, .slice B b.length d] w fun e w' => ∃ v, e = .returned v ∧ Rows w' w.heap.size v (Vec.rows Vec.crRow a b a.length) ∧ Below w.heap.size w w' := by
  have HA := Aside0.mk ha
  have HBb := Aside0.mk hb
  have HD := Aside0.mk hd
  have WA := Aside0.mk hwa
  have WB := Aside0.mk hwb
  obtain ⟨N, eN⟩ : ∃ N, N = Vec.words b.length := ⟨_, rfl⟩
  have hN : N ≤ 20000 := by rw [eN]; exact Vec.words_le hlb
  have EN := Aside0.mk eN
  clear ha hb hd hwa hwb eN
  go_enter Tryz.func29, Tryz.ntmps29
  go_wp2_with fail
  refine (Mask.new_calls B d b w HBb.out HD.out hlb WB.out).mono ?_
  rintro e w1 ⟨p, rfl, hp, hb⟩
  have HP := Aside0.mk hp
  have HB := Aside0.mk hb
  clear hp hb
  go_wp2_with fail
  refine (Vec.ones_calls b.length w1 hlb).mono ?_
  rintro e w2 ⟨z, rfl, hz, hb⟩
  obtain ⟨Az, cz, rfl⟩ := Kd.R_slice hz
  have hl0 : (Vec.ones b.length).length = N := by rw [EN.out]; exact Vec.not_len _ _
  have hz2 := Kd.R_bound hz
  have HN1 := Aside0.mk hb
  have HZ := Aside0.mk hz2
  clear hz hb hz2
  rw [hl0] at HZ ⊢
  clear hl0
  go_wp2_with fail
  have hg3 : (w2.alloc (.cells #[.slice Az N cz] 62)).heap[w2.heap.size]? = some (.cells #[.slice Az N cz] 62 (0, 0)) := blk_new _ _
  have hr3 : Rows (w2.alloc (.cells #[.slice Az N cz] 62)) w1.heap.size (.slice (some ⟨w2.heap.size, 0, none⟩) 1 1) (Vec.rows Vec.crRow a b 0) :=
    Rows.one (below_size HN1.out) hg3 (Kd.R_alloc (Kd.R_mono HZ.out (fun k hk => by have := hk.2.2.1; omega)) _)
  replace HN1 := Aside0.mk (below_step HN1.out ((Below.refl _ _).alloc (Nat.le_refl _) (.cells #[.slice Az N cz] 62)))
  have HRS := Aside0.mk hr3
  clear hg3 hr3 HZ
  generalize w2.alloc (.cells #[.slice Az N cz] 62) = w3 at *
  generalize Value.slice (some ⟨w2.heap.size, 0, none⟩) 1 1 = v0 at *
  obtain ⟨i0, hi0, hz0⟩ := Option.map_eq_some_iff.1 Rows.inf62
  simp only [Prod.mk.injEq] at hz0
  obtain ⟨hz0, hz1, hz2⟩ := hz0
  have I0 := Aside0.mk hi0
  have I1 := Aside0.mk hz0
  have I2 := Aside0.mk hz1
  have I3 := Aside0.mk hz2
  clear hi0 hz0 hz1 hz2
  go_loopw [6, 17] (fun v i wr => ∃ k : Nat, k ≤ a.length ∧ i = .int .i64 k ∧ Aside0 (Rows wr w1.heap.size v (Vec.rows Vec.crRow a b k)) ∧ Aside0 (Below w1.heap.size w1 wr)) (fun v i _ => a.length - (intOf i).toNat)
  case atStart => exact ⟨0, Nat.zero_le _, rfl, HRS, HN1⟩
  case round =>
    clear HRS HN1
    obtain ⟨k, hk, rfl, HRS, HN1⟩ := hrel
    obtain ⟨Av, cv, rfl⟩ := Kd.S_slice HRS.out
    have hln := Vec.rows_len Vec.crRow a b k
    rw [hln] at HRS ⊢
    clear hln
    by_cases hlt : k < a.length
    · obtain ⟨ad, ea, hx⟩ := Kd.at_int (Kd.C_below HA.out (below_step HB.out HN1.out)) (k : Int) (by omega) (by omega)
      subst ea
      rw [Int.toNat_natCast] at hx
      have hxw : (Lit.int .i64 (rd a (k : Int))).wf = true := by
        have e : rd a (k : Int) = a[k] := by unfold rd; simp [hlt]
        rw [e]; exact WA.out _ (List.getElem_mem hlt)
      obtain ⟨x, ex⟩ : ∃ x, x = rd a (k : Int) := ⟨_, rfl⟩
      rw [← ex] at hx hxw
      obtain ⟨g, Ar, cr, ea, hcell, hcl, hrd⟩ := Rows.at HRS.out k (by rw [Vec.rows_len]; omega)
      subst ea
      rw [Vec.rows_at _ _ _ (Nat.le_refl k)] at hcell hcl hrd
      obtain ⟨hok, hlen⟩ := Vec.cr_ok a b k
      obtain ⟨R, eR⟩ : ∃ R, R = Vec.rowAt Vec.crRow a b k := ⟨_, rfl⟩
      rw [← eR] at hcell hcl hrd hok hlen
      rw [← EN.out] at hlen
      rw [hlen] at hcell
      have EX := Aside0.mk ex
      have ER := Aside0.mk eR
      have HOK := Aside0.mk hok
      have HLN := Aside0.mk hlen
      rw [hlen] at hrd
      have HRDL := Aside0.mk (fun (w5 : World) (hb : Below wr.heap.size wr w5) => Kd.C_below hrd hb)
      have hk0 : (0 : Int) ≤ (k : Int) := Int.natCast_nonneg _
      have hk1 : (k : Int) < (k : Int) + 1 := by omega
      have HXW := Aside0.mk hxw
      have hgl := World.block_lt_of_cell? wr _ hcell
      have HGL := Aside0.mk hgl
      have HC0 := Aside0.mk hcell
      clear ex eR hok hlen hrd hxw hcl
      go_wp2_with fail
      clear hx
      go_region_held3 (fun w' => w'.cell? ⟨g, k, none⟩ = some (.slice Ar N cr)) (go_keep) (first
        | (go_at_call 72; (with_reducible refine (Mask.of_calls p b x wr.drew (HP.out.below (below_drew HN1.out)) hlb HXW.out).mono ?_); rintro e w5 ⟨z1, rfl, h1, hb1⟩; obtain ⟨A1, c1, rfl⟩ := Kd.R_slice h1; rw [Mask.row_len, ← EN.out]; have H1 := Aside0.mk h1; have HB1 := Aside0.mk (below_step (below_drew (Below.refl wr.heap.size wr)) hb1); have hcell1 := (HB1.out.cell (p := ⟨g, k, none⟩) HGL.out).trans HC0.out; clear h1 hb1)
        | (go_at_call 73; have R1 := (Kd.R_reads' H1.out).2.2; have hc_ := Vec.crRow_calls Ar cr R A1 c1 _ b.length w5 (by rw [HLN.out]; exact HRDL.out w5 HB1.out) R1 hlb HOK.out (Mask.row_ok _ _ _ _); rw [HLN.out, Mask.row_len, ← EN.out] at hc_; (with_reducible refine hc_.mono ?_); clear hc_ R1; rintro e w6 ⟨z2, rfl, h2, hb2⟩; have HB2 := Aside0.mk (below_step HB1.out hb2); have hcell2 := (HB2.out.cell (p := ⟨g, k, none⟩) HGL.out).trans HC0.out; obtain ⟨A2, c2, rfl⟩ := Kd.R_slice h2; have el_ : (Vec.crRow R (Mask.row b x b.length N) b.length).length = N := (Vec.fit_len _ _).trans EN.out.symm; rw [el_] at h2 ⊢; have hn_ : Kd.R (Kd.int .u64) 104 (w6.alloc (.cells #[.slice A2 N c2] 62)) w1.heap.size (fun q => wr.heap.size ≤ q) (.slice A2 N c2) _ := Kd.R_alloc (Kd.R_lower (Kd.R_mono (Kd.R_bound h2) (fun q hq => Nat.le_trans HB1.out.size hq.2.1)) (Nat.le_trans (below_size HN1.out) HB1.out.size)) _; have HNW := Aside0.mk hn_; have hS_ := Kd.S_old HRS.out (below_step HB2.out ((Below.refl w6.heap.size w6).alloc (Nat.le_refl _) (.cells #[.slice A2 N c2] 62))); obtain ⟨f_, h0S, inner, hoS, hrS⟩ := hS_; rw [List.length_zipIdx, Vec.rows_len] at hoS; have HOS := Aside0.mk hoS; have HRP := Aside0.mk hrS; have H0S := Aside0.mk h0S; have LW := Aside0.mk (show w1.heap.size ≤ w6.heap.size from Nat.le_trans (below_size HN1.out) HB2.out.size); have lt6 : g < w6.heap.size := Nat.lt_of_lt_of_le HGL.out HB2.out.size; clear h2 hb2 el_ hn_ hoS hrS h0S)
        | (refine App.step _ (by rfl) _ _ _ (by rfl) w1.heap.size 62 i0 _ 24 Tryz.underlying59 I0.out I1.out I2.out I3.out rfl g (k + 1) cv inner (by rfl) HOS.out ⟨w6.heap.size, 0, none⟩ (.slice A2 N c2) (by rfl) (by exact (blk_cell (blk_new w6 _) 0).trans rfl) rfl (by unfold maxLen; omega) (by omega) (by have := LW.out; simp; omega) (w6.heap.size + 1) (by simp) ?_; intro gg cap w7 hown7 hgrow7 hat7 hlt7 hkeep7; have HO7 := Aside0.mk hown7; have HG7 := Aside0.mk hgrow7; have HA7 := Aside0.mk hat7; have hcell7 := (hkeep7 k (by omega)).trans ((((Below.refl w6.heap.size w6).alloc (Nat.le_refl _) _).cell (p := ⟨g, k, none⟩) lt6).trans hcell2); clear hown7 hgrow7 hat7 hkeep7)
        | fail)
      have hrows : Rows w7 w1.heap.size (.slice (some ⟨gg, 0, none⟩) (k + 1 + 1) cap) (Vec.rows Vec.crRow a b (k + 1)) := by
        have h := Rows.app (N0 := wr.heap.size) (f := f_) (fun q hq => (H0S.out q hq).2) (HRP.out.imp_ fun x cs hx => Rows.kd.M_mono (fun q hq => ⟨⟨hq.1.1.2, hq.1.2⟩, hq.2⟩) hx) HNW.out (by rw [Vec.rows_len]; exact HO7.out) HG7.out (by
          rcases HA7.out with h | h
          · exact Or.inl (by simp [Value.ownBlock, h])
          · exact Or.inr ⟨gg, rfl, by rw [h]; exact Nat.le_of_eq (World.size_alloc _ _)⟩)
        rw [ER.out, EX.out, EN.out] at h
        have e := Vec.rows_snoc Vec.crRow a b k
        rw [← e]
        exact h
      have hb6 : Below w1.heap.size w1 (w6.alloc (.cells #[.slice A2 N c2] 62)) := below_step HN1.out (below_step HB2.out ((Below.refl w6.heap.size w6).alloc (Nat.le_refl _) _))
      have hgb := Kd.S_base HRS.out g rfl
      have hb7 : Below w1.heap.size w1 w7 := hb6.grown HG7.out hb6.size (fun q hq => by injection hq with hq; rw [← hq]; exact hgb)
      have HR7 := Aside0.mk hrows
      have HB7 := Aside0.mk hb7
      clear hrows hb6 hgb hb7 HG7 HA7 hlt7 HO7 HNW HOS HRP H0S LW lt6 H1 HB1 HB2 HRDL HC0 HGL HXW HLN HOK ER EX HRS HN1 hcell1 hcell2 hcell7 hcell hgl
      go_wp2
      go_roundw
      case rel => exact ⟨k + 1, by omega, by go_num, HR7, HB7⟩
      case measure => simp [intOf]; omega
    · have ek : k = a.length := by omega
      subst ek
      clear hk hlt
      go_wp2
      go_ret
      exact ⟨_, rfl, Kd.S_lower HRS.out (below_size HB.out), below_step HB.out HN1.out⟩
end Go.Proofs.YtjkjanegankdhaaGreat.Vx
