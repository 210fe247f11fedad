/- sync.Once by contracts; the walks of tile.square's regions. -/
import Derived.Defers
import Derived.Tactics2
import Derived.Laws.Pointers
import Derived.Laws.LoneSync
import Derived.RegionTactic
import Derived.RegionCalls
import Derived.Laws.NewBlocks
import Derived.WalkKit
import Derived.Test.YtpdjdffimighkaaProg
import Derived.Test.YtpdjdffimighkaaZWWords
import Derived.Test.YtpdjdffimighkaaZWLast
import Derived.Test.YtpdjdffimighkaaZWTab
import Derived.Test.YtpdjdffimighkaaZWFour
import Derived.Test.YtpdjdffimighkaaZWQPut
import Derived.Test.YtpdjdffimighkaaZWApart
import Derived.Test.YtpdjdffimighkaaZWArr
import Derived.Test.YtpdjdffimighkaaZWZeros
import Derived.Test.YtpdjdffimighkaaZWFoot
import Derived.Test.YtpdjdffimighkaaZWKept
import Derived.Test.YtpdjdffimighkaaZWShare
import Derived.Test.YtpdjdffimighkaaZWN
import Derived.Test.YtpdjdffimighkaaZWFootNe
import Derived.Test.YtpdjdffimighkaaZWAt
import Derived.Test.YtpdjdffimighkaaZWEqStruct
import Derived.Test.YtpdjdffimighkaaZWRepsOne
import Derived.Test.YtpdjdffimighkaaZWInv
import Derived.Test.YtpdjdffimighkaaZWInvWords
import Derived.Test.YtpdjdffimighkaaZWGuard
import Derived.Test.YtpdjdffimighkaaZWNEv
import Derived.Test.YtpdjdffimighkaaZWMore
namespace Go.Proofs.Ytpdjdffimighkaa.Tile
open Go.RowKit Go.Proofs.YtpdjdffimighkaaW.PrintWords Go.Proofs.YtpdjdffimighkaaW.PrintLast Go.Proofs.YtpdjdffimighkaaW.PrintMore
set_option linter.unusedVariables false
set_option linter.unusedSimpArgs false
/-! ### sync.Once, one goroutine: the function handed to it by a contract. The block: t, done, state, sema, all. -/
theorem disable (w : World) : (callFunc 42 #[]).run Try.prog w = .ok (.value (.tuple #[])) w := run_call_mark0 Try.func42 (by kernel_rfl) (by kernel_rfl) (by kernel_rfl) .disable (by kernel_rfl) w
theorem enable (w : World) : (callFunc 44 #[]).run Try.prog w = .ok (.value (.tuple #[])) w := run_call_mark0 Try.func44 (by kernel_rfl) (by kernel_rfl) (by kernel_rfl) .enable (by kernel_rfl) w
theorem acquire (a : Addr) (w : World) : (callFunc 45 #[.pointer (some a)]).run Try.prog w = .ok (.value (.tuple #[])) w := run_call_marked Try.func45 (by kernel_rfl) (by kernel_rfl) (by kernel_rfl) .acquire (by kernel_rfl) a w
theorem releaseMerge (a : Addr) (w : World) : (callFunc 47 #[.pointer (some a)]).run Try.prog w = .ok (.value (.tuple #[])) w := run_call_marked Try.func47 (by kernel_rfl) (by kernel_rfl) (by kernel_rfl) .releaseMerge (by kernel_rfl) a w
theorem store_deferred (a : Addr) (x : Value) (u : FrameMode) (w : World) (hc : w.cell? a = some x) (hz : w.frozen? a = false) :
    CallsD Try.prog 37 #[.pointer (some a), .bool true] u w fun e u' w' => u' = u ∧ (e = .returned (.tuple #[]) ∧ w' = w.drew.setCell a (.int .u32 1)) := by
  have hc' : w.drew.cell? a = some x := by go_simp
  have hz' : w.drew.frozen? a = false := by go_simp
  have hst := run_call_store (P := Try.prog) Try.func40 (by kernel_rfl) (by kernel_rfl) (by kernel_rfl) (by kernel_rfl) (k := .u32) (y := 1) hc' hz'
  go_enter_d Try.func37, Try.ntmps37
  go_wp2
  go_region_calls
  all_goals (go_end0; exact ⟨rfl, rfl⟩)
theorem unlock_in (a : Addr) (w : World) (hc : w.cell? a = some (.int .i32 1)) (hz : w.frozen? a = false) :
    Calls Try.prog 39 #[.pointer (some a)] w fun e w' => e = .returned (.tuple #[]) ∧ w' = w.setCell a (.int .i32 0) := by
  have hd := disable
  have he := enable
  have hr := releaseMerge
  have hadd := run_call_add (P := Try.prog) Try.func48 (by kernel_rfl) (by kernel_rfl) (by kernel_rfl) .i32 (by kernel_rfl) (y := -1) (s := 0) hc hz (by simp [go_sem]; rfl)
  have hcv := run_convert_to_unsafe (P := Try.prog) (src := 85) (dst := 89) Try.underlying85 Try.underlying89 (by kernel_rfl) hc
  go_enter Try.func39, Try.ntmps39
  go_wp2
  go_end0
  exact ⟨rfl, rfl⟩
theorem lock_in (a : Addr) (w : World) (hc : w.cell? a = some (.int .i32 0)) (hz : w.frozen? a = false) :
    Calls Try.prog 38 #[.pointer (some a)] w fun e w' => e = .returned (.tuple #[]) ∧ w' = w.setCell a (.int .i32 1) := by
  have hd := disable
  have he := enable
  have ha := acquire
  have hcas := run_call_cas_hit (P := Try.prog) Try.func43 (by kernel_rfl) (by kernel_rfl) (by kernel_rfl) .i32 (by kernel_rfl) (y := 1) hc hz
  have hc' : (w.setCell a (.int .i32 1)).cell? a = some (.int .i32 1) := World.cell?_setCell_same w a _ hc
  have hcv := run_convert_to_unsafe (P := Try.prog) (src := 85) (dst := 89) Try.underlying85 Try.underlying89 (by kernel_rfl) hc'
  go_enter Try.func38, Try.ntmps38
  go_wp2
  first | go_end0 | (simp only [Exit.inBlock, Exit.then]; refine bodyPost_ret (results_none rfl _ _ _) rfl ?_) | refine bodyPost_ret (results_none rfl _ _ _) rfl ?_
  exact ⟨rfl, rfl⟩
theorem unlock_deferred (a : Addr) (u : FrameMode) (w : World) (hc : w.cell? a = some (.int .i32 1)) (hz : w.frozen? a = false) :
    CallsD Try.prog 36 #[.pointer (some a)] u w fun e u' w' => u' = u ∧ (e = .returned (.tuple #[]) ∧ w' = w.setCell a (.int .i32 0)) := by
  go_enter_d Try.func36, Try.ntmps36
  go_wp2_with (go_at_call 39; refine (unlock_in a _ hc hz).mono ?_; rintro e w' ⟨rfl, rfl⟩)
  go_end0
  exact ⟨rfl, rfl⟩
theorem lock_free (a : Addr) (w : World) (hc : w.cell? a = some (.int .i32 0)) (hz : w.frozen? a = false) :
    Calls Try.prog 35 #[.pointer (some a)] w fun e w' => e = .returned (.tuple #[]) ∧ w' = w.setCell a (.int .i32 1) := by
  go_enter Try.func35, Try.ntmps35
  go_wp2_with (go_at_call 38; refine (lock_in a _ hc hz).mono ?_; rintro e w' ⟨rfl, rfl⟩)
  go_end0
  exact ⟨rfl, rfl⟩
theorem load_in (a : Addr) (d : Int) (w : World) (hc : w.cell? a = some (.int .u32 d)) :
    Calls Try.prog 30 #[.pointer (some a)] w fun e w' => e = .returned (.bool (d != 0)) ∧ w = w' := by
  have hl := run_call_load (P := Try.prog) Try.func34 (by kernel_rfl) (by kernel_rfl) (by kernel_rfl) .u32 (by kernel_rfl) hc
  go_enter Try.func30, Try.ntmps30
  go_wp2
  go_ret
  exact ⟨rfl, rfl⟩
set_option maxRecDepth 100000 in
set_option maxHeartbeats 1600000 in
theorem slow_any (b : Nat) (p : Value) (w : World) (R : World → Prop) (h0 : w.cell? ⟨b, 1, none⟩ = some (.int .u32 0)) (h1 : w.cell? ⟨b, 2, none⟩ = some (.int .i32 0)) (f0 : w.frozen? ⟨b, 1, none⟩ = false) (f1 : w.frozen? ⟨b, 2, none⟩ = false)
    (hf : Calls Try.prog 28 #[p] (w.setCell ⟨b, 2, none⟩ (.int .i32 1)) fun e w' => e = .returned (.tuple #[]) ∧ (w'.cell? ⟨b, 1, none⟩ = some (.int .u32 0) ∧ w'.frozen? ⟨b, 1, none⟩ = false ∧ w'.cell? ⟨b, 2, none⟩ = some (.int .i32 1) ∧ w'.frozen? ⟨b, 2, none⟩ = false) ∧ R w') :
    Calls Try.prog 31 #[.pointer (some ⟨b, 1, none⟩), .func (.func 28) #[p] #[]] w fun e w' => e = .returned (.tuple #[]) ∧ ∃ w2, R w2 ∧ w' = (w2.drew.setCell ⟨b, 1, none⟩ (.int .u32 1)).setCell ⟨b, 2, none⟩ (.int .i32 0) := by
  have h0' : (w.setCell ⟨b, 2, none⟩ (.int .i32 1)).cell? ⟨b, 1, none⟩ = some (.int .u32 0) := (World.cell?_setCell_other _ ⟨b, 2, none⟩ ⟨b, 1, none⟩ _ (by simp)).trans h0
  have hnot : ∀ (x : Bool) (w : World), (Op.unary .not (.bool x)).run Try.prog w = .ok (.bool (!x)) w := fun _ _ => rfl
  go_enter_defers Try.func31, Try.ntmps31
  go_wp2_with (first
    | (go_at_call 35; refine (lock_free ⟨b, 2, none⟩ _ h1 f1).mono ?_; rintro e w' ⟨rfl, rfl⟩)
    | (go_at_call 30; refine (load_in ⟨b, 1, none⟩ 0 _ h0').mono ?_; rintro e w' ⟨rfl, rfl⟩)
    | (go_at_call 28; refine hf.mono ?_; rintro e w2 ⟨rfl, ⟨g0, gf0, g1, gf1⟩, hR⟩))
  refine leaves_cons (f := 37) (args := #[.pointer (some ⟨b, 1, none⟩), .bool true]) (by simp) (by simp [go_sem]) ?_
  refine (store_deferred ⟨b, 1, none⟩ (.int .u32 0) .returning _ g0 gf0).mono ?_
  rintro e u' w'' ⟨rfl, rfl, rfl⟩
  refine leaves_cons (f := 36) (args := #[.pointer (some ⟨b, 2, none⟩)]) (by simp [settle]) (by simp [go_sem]) ?_
  refine (unlock_deferred ⟨b, 2, none⟩ _ _ ?_ (by simp [gf1])).mono ?_
  · refine (World.cell?_setCell_other _ ⟨b, 1, none⟩ ⟨b, 2, none⟩ _ (by simp)).trans ?_
    rw [World.cell?_drew]; exact g1
  rintro e u' w'' ⟨rfl, rfl, rfl⟩
  simp [Leaves, settle, results, Try.results31]
  exact ⟨w2, hR, rfl⟩
set_option maxRecDepth 100000 in
set_option maxHeartbeats 1600000 in
theorem do_first (b : Nat) (p : Value) (w : World) (R : World → Prop) (h0 : w.cell? ⟨b, 1, none⟩ = some (.int .u32 0)) (h1 : w.cell? ⟨b, 2, none⟩ = some (.int .i32 0)) (f0 : w.frozen? ⟨b, 1, none⟩ = false) (f1 : w.frozen? ⟨b, 2, none⟩ = false)
    (hf : Calls Try.prog 28 #[p] (w.setCell ⟨b, 2, none⟩ (.int .i32 1)) fun e w' => e = .returned (.tuple #[]) ∧ (w'.cell? ⟨b, 1, none⟩ = some (.int .u32 0) ∧ w'.frozen? ⟨b, 1, none⟩ = false ∧ w'.cell? ⟨b, 2, none⟩ = some (.int .i32 1) ∧ w'.frozen? ⟨b, 2, none⟩ = false) ∧ R w') :
    Calls Try.prog 27 #[.pointer (some ⟨b, 1, none⟩), .func (.func 28) #[p] #[]] w fun e w' => e = .returned (.tuple #[]) ∧ ∃ w2, R w2 ∧ w' = (w2.drew.setCell ⟨b, 1, none⟩ (.int .u32 1)).setCell ⟨b, 2, none⟩ (.int .i32 0) := by
  have hnot : ∀ (x : Bool) (w : World), (Op.unary .not (.bool x)).run Try.prog w = .ok (.bool (!x)) w := fun _ _ => rfl
  go_enter Try.func27, Try.ntmps27
  go_wp2_with (first
    | (go_at_call 30; refine (load_in ⟨b, 1, none⟩ 0 _ h0).mono ?_; rintro e w' ⟨rfl, rfl⟩)
    | (go_at_call 31; refine (slow_any b p _ R h0 h1 f0 f1 hf).mono ?_; rintro e w3 ⟨rfl, hw3⟩))
  go_end0
  exact ⟨rfl, hw3⟩
theorem do_done (a : Addr) (d : Int) (hd : ¬ d = 0) (fv : Value) (w : World) (h0 : w.cell? a = some (.int .u32 d)) :
    Calls Try.prog 27 #[.pointer (some a), fv] w fun e w' => e = .returned (.tuple #[]) ∧ w = w' := by
  have hnot : ∀ (x : Bool) (w : World), (Op.unary .not (.bool x)).run Try.prog w = .ok (.bool (!x)) w := fun _ _ => rfl
  have hd' : (d != 0) = true := by simp [hd]
  go_enter Try.func27, Try.ntmps27
  go_wp2_with (go_at_call 30; refine (load_in a d _ h0).mono ?_; rintro e w' ⟨rfl, rfl⟩)
  go_end0
  exact ⟨rfl, rfl⟩
theorem Ev.same {a : Act} {N : Nat} {v : Value} (h : N < a.tmps.size) : (a.put (some N) v).eval (.tmp N) = v := by
  simp [Act.put, Act.eval, h]
theorem Ev.other {a : Act} {N M : Nat} {v : Value} (h : N ≠ M) : (a.put (some N) v).eval (.tmp M) = a.eval (.tmp M) := by
  simp [Act.put, Act.eval, Array.getElem?_setIfInBounds, h]
theorem Ev.size {a : Act} {d : Option Tmp} {v : Value} : (a.put d v).tmps.size = a.tmps.size := by
  cases d <;> simp [Act.put]
theorem Ev.wanted {ops : Array Oper} {a : Act} {o : Oper} (hg : o.guard = none) : Region.wanted o (yielded ops a.tmps) = true := by unfold Region.wanted; rw [hg]
/-- An act that kept the slots but for some, and its deferred calls. -/
def Ev.Stay (L : List Nat) (a a' : Act) : Prop := a'.tmps.size = a.tmps.size ∧ a'.defers = a.defers ∧ ∀ M, M ∉ L → a'.eval (.tmp M) = a.eval (.tmp M)
theorem Ev.Stay.refl (L : List Nat) (a : Act) : Ev.Stay L a a := ⟨rfl, rfl, fun _ _ => rfl⟩
theorem Ev.Stay.put {L : List Nat} {a a' : Act} {T : Nat} (h : Ev.Stay L a a') (hT : T ∈ L) (v : Value) : Ev.Stay L a (a'.put (some T) v) := by
  refine ⟨by rw [Ev.size]; exact h.1, h.2.1, fun M h2 => ?_⟩
  rw [Ev.other]
  · exact h.2.2 M h2
  · rintro rfl
    exact h2 hT
theorem Ev.Stay.trans {L L' L'' : List Nat} {a b c : Act} (h : Ev.Stay L a b) (k : Ev.Stay L' b c) (h1 : ∀ M, M ∈ L → M ∈ L'') (h2 : ∀ M, M ∈ L' → M ∈ L'') : Ev.Stay L'' a c := ⟨k.1.trans h.1, k.2.1.trans h.2.1, fun M q => (k.2.2 M (fun r => q (h2 M r))).trans (h.2.2 M (fun r => q (h1 M r)))⟩
section
variable {ops : Array Oper} {S : World → Prop} {a : Act} {o : Oper} {W W' : World} {K : Act → World → Prop} {Q : Exit → Act → World → Prop} {P : Program} {rest : List Oper}
theorem Ev.load {t : TypeId} {s : Operand} {p : Addr} {v : Value} (ho : o.op = .load t s) (hg : o.guard = none) (hs : a.eval s = .pointer (some p)) (hr : ∀ w, S w → (Instr.loadAt t (.pointer (some p))).run P w = .ok v w) : YieldsIf P ops S o v a := by
  refine Or.inl ⟨by unfold Region.wanted; rw [hg], fun w hw => ?_⟩
  unfold execOp
  rw [ho]
  simp only [hs, Sem.run_bind, hr w hw, Result.andThen_ok, Sem.run_pure]
theorem Ev.store {t : TypeId} {s x : Operand} {p : Addr} {v : Value} (ho : o.op = .store t s x) (hd : o.dst = none) (hs : a.eval s = .pointer (some p)) (hx : a.eval x = v) (hr : (Instr.storeAt t (.pointer (some p)) v).run P W = .ok () W') (h : K a W') : o.wp P a W K Q := by
  have e : (execOp a.eval o).run P W = .ok .skip W' := by
    unfold execOp
    rw [ho]
    simp only [hs, hx, Sem.run_bind, hr, Result.andThen_ok, Sem.run_pure]
  unfold Oper.wp
  rw [e]
  show K (a.put o.dst undef) W'
  rw [hd]; exact h
theorem Ev.made {N : Tmp} {v : Value} (hd : o.dst = some N) (hr : (execOp a.eval o).run P W = .ok (.value v) W') (h : K (a.put (some N) v) W') : o.wp P a W K Q := by
  unfold Oper.wp
  rw [hr]
  show K (a.put o.dst v) W'
  rw [hd]; exact h
theorem Ev.pv {N : Tmp} {v : Value} (hr : (execOp a.eval o).run P W = .ok (.value v) W') (hg : o.guard = none) (hd : o.dst = some N) (h : wpList P ops Q rest (a.put (some N) v) W') : wpList P ops Q (o :: rest) a W :=
  wpList_plain hg fun K hK => Ev.made hd hr (hK _ _ h)
theorem Ev.pk (hr : (execOp a.eval o).run P W = .ok .skip W') (hg : o.guard = none) (hd : o.dst = none) (h : wpList P ops Q rest a W') : wpList P ops Q (o :: rest) a W := by
  refine wpList_plain hg fun K hK => ?_
  unfold Oper.wp
  rw [hr]
  show K (a.put o.dst undef) W'
  rw [hd]; exact hK _ _ h
theorem Ev.pc {N : Tmp} {f : FuncId} {args : Array Value} (hr : (execOp a.eval o).run P W = .ok (.enter f args) W) (hg : o.guard = none) (hd : o.dst = some N) (hc : Calls P f args W (fun e w' => ∃ v, e = .returned v ∧ wpList P ops Q rest (a.put (some N) v) w')) : wpList P ops Q (o :: rest) a W := by
  refine wpList_plain hg fun K hK => ?_
  unfold Oper.wp
  rw [hr, Oper.upon_enter]
  refine hc.mono ?_
  rintro e w' ⟨v, rfl, h⟩
  show K (a.put o.dst v) w'
  rw [hd]; exact hK _ _ h
end
theorem Ev.loadW {P : Program} {ops : Array Oper} {S : World → Prop} {a : Act} {o : Oper} {t : TypeId} {s : Operand} {p : Addr} {v : Value} (hw : Region.wanted o (yielded ops a.tmps) = true) (ho : o.op = .load t s) (hs : a.eval s = .pointer (some p)) (hr : ∀ w, S w → (Instr.loadAt t (.pointer (some p))).run P w = .ok v w) : YieldsIf P ops S o v a := by
  refine Or.inl ⟨hw, fun w hw => ?_⟩
  unfold execOp
  rw [ho]
  simp only [hs, Sem.run_bind, hr w hw, Result.andThen_ok, Sem.run_pure]
theorem Ev.wantedG {ops : Array Oper} {a : Act} {o o' : Oper} {i N : Nat} (hg : o.guard = some (i, false)) (ho : ops[i]? = some o') (hd : o'.dst = some N) (he : a.eval (.tmp N) = .bool false) : Region.wanted o (yielded ops a.tmps) = true := by
  have h : a.tmps[N]? = some (.bool false) := by
    have he' : a.tmps.getD N undef = .bool false := he
    rw [Array.getD_eq_getD_getElem?] at he'
    cases h : a.tmps[N]? with
    | none => rw [h] at he'; cases he'
    | some v => rw [h] at he'; rw [show v = .bool false from he']
  unfold Region.wanted yielded
  rw [hg]
  simp [ho, hd, h]
theorem Ev.load3 {W : World} {p : Addr} {v : Value} (hc : W.cell? p = some v) : (Instr.loadAt 3 (.pointer (some p))).run Try.prog W = .ok v W := by
  go_simp
theorem Ev.store3 {W : World} {p : Addr} {x : Int} {u : Value} (hc : W.cell? p = some u) (hf : W.frozen? p = false) : (Instr.storeAt 3 (.pointer (some p)) (.int .i64 x)).run Try.prog W = .ok () (W.setCell p (.int .i64 x)) := by
  go_simp
/-- A four by four array of numbers. -/
def arr (G : Nat → Int) : Array Value := ((List.range 16).map fun i => Value.int .i64 (G i)).toArray
def upd (G : Nat → Int) (i : Nat) (x : Int) : Nat → Int := fun j => if j = i then x else G j
theorem arr_cell {W : World} {B : Nat} {G : Nat → Int} {i : Nat} (h : W.heap[B]? = some (.cells (arr G) 81 (0, 0))) (hi : i < 16) : W.cell? ⟨B, i, none⟩ = some (.int .i64 (G i)) := by
  refine (blk_cell h i).trans ?_
  simp [arr, hi]
theorem arr_frozen {W : World} {B : Nat} {G : Nat → Int} {i : Nat} (h : W.heap[B]? = some (.cells (arr G) 81 (0, 0))) : W.frozen? ⟨B, i, none⟩ = false := blk_frozen h i
theorem arr_set {W : World} {B : Nat} {G : Nat → Int} {i : Nat} (h : W.heap[B]? = some (.cells (arr G) 81 (0, 0))) (x : Int) : (W.setCell ⟨B, i, none⟩ (.int .i64 x)).heap[B]? = some (.cells (arr (upd G i x)) 81 (0, 0)) := by
  have h1 := blk_set h i (.int .i64 x)
  rw [h1]
  congr 2
  unfold arr
  apply Array.ext
  · simp
  · intro j h1 h2
    simp at h1 h2
    simp [Array.getElem_setIfInBounds, upd]
    by_cases e : i = j
    · subst e; simp
    · rw [List.getElem_set_ne e, if_neg (fun q => e q.symm)]
      simp
noncomputable def Rg.body : Nat → Option Code
  | 33 => Try.f33.body
  | 28 => Try.f28.body
  | 23 => Try.f23.body
  | _ => none
noncomputable def Rg.ops (f k : Nat) : Array Oper := ((Rg.body f).bind fun c => opsIn c k).getD #[]
theorem Rg.at0 {o : Oper} {l : List Oper} : (List.toArray (o :: l))[0]? = some o := rfl
theorem Rg.atS {o x : Oper} {l : List Oper} {i : Nat} (h : (List.toArray l)[i]? = some x) : (List.toArray (o :: l))[i + 1]? = some x := by simpa using h
theorem Rg.of {A B : Array Oper} {i : Nat} {x : Oper} (h : A = B) (hx : B[i]? = some x) : A[i]? = some x := by rw [h]; exact hx
theorem wr {x : Int} (h0 : -9223372036854775808 ≤ x) (h1 : x < 9223372036854775808) : IntKind.i64.wrap x = x := by
  simp [IntKind.wrap, IntKind.signed, IntKind.bits]; omega
theorem Ev.oth {a b : Act} {N M : Nat} {v x : Value} (q : b = a.put (some N) v) (h : N ≠ M) (e : a.eval (.tmp M) = x) : b.eval (.tmp M) = x := by rw [q, Ev.other h]; exact e
theorem Ev.sam {a b : Act} {N : Nat} {v : Value} (q : b = a.put (some N) v) (h : N < a.tmps.size) : b.eval (.tmp N) = v := by rw [q, Ev.same h]
set_option maxHeartbeats 2000000 in
theorem Rg.s5 {id : Nat} {Q : Exit → Act → World → Prop} {a : Act} {W : World} {B k : Nat} {top bt : Int} {G : Nat → Int}
    (hsz : a.tmps.size = 137) (hP : ∀ c a a' w, a'.defers = a.defers → Q (.panic c) a w → Q (.panic c) a' w)  (h10 : a.eval (.tmp 10) = .pointer (some ⟨B, 0, none⟩)) (h11 : a.eval (.tmp 11) = .int .i64 (k : Int)) (h2 : a.eval (.tmp 2) = .int .i64 (top)) (hG : W.drew.heap[B]? = some (.cells (arr G) 81 (0, 0))) (hk : k < 3) (hb : bits .and .i64 (top / 2 ^ k) 1 = bt) (hbt : 0 ≤ bt ∧ bt ≤ 1) (hg : 0 ≤ G k ∧ G k ≤ 100)
    (hQ : ∀ a', Ev.Stay [19, 20, 21, 22, 23, 24, 25, 26, 27, 28, 29, 30, 31] a a' → Q .normal a' (W.drew.setCell ⟨B, k + 1, none⟩ (.int .i64 (G k + bt)))) : (Code.region id (Rg.ops 33 5) true).wp Try.prog Q a W := by
  have hops : Rg.ops 33 5 = List.toArray [_, _, _, _, _, _, _, _, _, _, _, _, _, _] := rfl
  refine start_ (S := fun w_ => w_.heap[B]? = some (.cells (arr G) 81 (0, 0))) (ds := [13]) #[false, false, false, false, false, false, false, false, false, false, false, false, false, false] (by kernel_rfl) (n := 14) rfl rfl ?S0 (fun hHeld => ?_)
  case S0 => exact hG
  have k0 : Ev.Stay [19, 20, 21, 22, 23, 24, 25, 26, 27, 28, 29, 30, 31] a a := Ev.Stay.refl [19, 20, 21, 22, 23, 24, 25, 26, 27, 28, 29, 30, 31] a
  refine pure_ (i := 0) (N := some 19) (v := .int .i64 (k : Int)) #[true, false, false, false, false, false, false, false, false, false, false, false, false, false] (Rg.of hops Rg.at0) rfl (by kernel_rfl) (fun c _ _ h => hP c _ _ _ (by rfl) h) (Or.inl ⟨Ev.wanted rfl, fun w_ => ?_⟩) rfl ?_
  · unfold execOp
    generalize a.eval = ev at *
    go_simp
  obtain ⟨a1, qa1⟩ : ∃ z_, z_ = a.put (some 19) (.int .i64 (k : Int)) := ⟨_, rfl⟩
  have k1 : Ev.Stay [19, 20, 21, 22, 23, 24, 25, 26, 27, 28, 29, 30, 31] a a1 := by rw [qa1]; exact k0.put (by decide) _
  have e1_10 := Ev.oth qa1 (by decide) h10
  have e1_11 := Ev.oth qa1 (by decide) h11
  have e1_2 := Ev.oth qa1 (by decide) h2
  have e1_19 := Ev.sam qa1 (by rw [k0.1, hsz]; decide)
  rw [← qa1]
  clear qa1 
  refine pure_ (i := 1) (N := some 20) (v := .int .i64 ((k + 1 : Nat) : Int)) #[true, true, false, false, false, false, false, false, false, false, false, false, false, false] (Rg.of hops (Rg.atS Rg.at0)) rfl (by kernel_rfl) (fun c _ _ h => hP c _ _ _ (by rfl) h) (Or.inl ⟨Ev.wanted rfl, fun w_ => ?_⟩) rfl ?_
  · have ec0 : a1.eval (.const (.int .i64 (1))) = .int .i64 (1) := rfl
    have lk : (k : Int) < 4 := by omega
    have lk0 : (0 : Int) ≤ (k : Int) := by omega
    unfold execOp
    generalize a1.eval = ev at *
    (go_simp; exact wr (by omega) (by omega))
  obtain ⟨a2, qa2⟩ : ∃ z_, z_ = a1.put (some 20) (.int .i64 ((k + 1 : Nat) : Int)) := ⟨_, rfl⟩
  have k2 : Ev.Stay [19, 20, 21, 22, 23, 24, 25, 26, 27, 28, 29, 30, 31] a a2 := by rw [qa2]; exact k1.put (by decide) _
  have e2_10 := Ev.oth qa2 (by decide) e1_10
  have e2_11 := Ev.oth qa2 (by decide) e1_11
  have e2_2 := Ev.oth qa2 (by decide) e1_2
  have e2_19 := Ev.oth qa2 (by decide) e1_19
  have e2_20 := Ev.sam qa2 (by rw [k1.1, hsz]; decide)
  rw [← qa2]
  clear qa2 e1_10 e1_11 e1_2 e1_19
  refine pure_ (i := 2) (N := some 21) (v := .int .i64 (k : Int)) #[true, true, true, false, false, false, false, false, false, false, false, false, false, false] (Rg.of hops (Rg.atS (Rg.atS Rg.at0))) rfl (by kernel_rfl) (fun c _ _ h => hP c _ _ _ (by rfl) h) (Or.inl ⟨Ev.wanted rfl, fun w_ => ?_⟩) rfl ?_
  · unfold execOp
    generalize a2.eval = ev at *
    go_simp
  obtain ⟨a3, qa3⟩ : ∃ z_, z_ = a2.put (some 21) (.int .i64 (k : Int)) := ⟨_, rfl⟩
  have k3 : Ev.Stay [19, 20, 21, 22, 23, 24, 25, 26, 27, 28, 29, 30, 31] a a3 := by rw [qa3]; exact k2.put (by decide) _
  have e3_10 := Ev.oth qa3 (by decide) e2_10
  have e3_11 := Ev.oth qa3 (by decide) e2_11
  have e3_2 := Ev.oth qa3 (by decide) e2_2
  have e3_19 := Ev.oth qa3 (by decide) e2_19
  have e3_20 := Ev.oth qa3 (by decide) e2_20
  have e3_21 := Ev.sam qa3 (by rw [k2.1, hsz]; decide)
  rw [← qa3]
  clear qa3 e2_10 e2_11 e2_2 e2_19 e2_20
  refine pure_ (i := 3) (N := some 22) (v := .pointer (some ⟨B, 0, none⟩)) #[true, true, true, true, false, false, false, false, false, false, false, false, false, false] (Rg.of hops (Rg.atS (Rg.atS (Rg.atS Rg.at0)))) rfl (by kernel_rfl) (fun c _ _ h => hP c _ _ _ (by rfl) h) (Or.inl ⟨Ev.wanted rfl, fun w_ => ?_⟩) rfl ?_
  · have ec0 : a3.eval (.const (.int .i64 (0))) = .int .i64 (0) := rfl
    unfold execOp
    generalize a3.eval = ev at *
    go_simp
  obtain ⟨a4, qa4⟩ : ∃ z_, z_ = a3.put (some 22) (.pointer (some ⟨B, 0, none⟩)) := ⟨_, rfl⟩
  have k4 : Ev.Stay [19, 20, 21, 22, 23, 24, 25, 26, 27, 28, 29, 30, 31] a a4 := by rw [qa4]; exact k3.put (by decide) _
  have e4_10 := Ev.oth qa4 (by decide) e3_10
  have e4_11 := Ev.oth qa4 (by decide) e3_11
  have e4_2 := Ev.oth qa4 (by decide) e3_2
  have e4_19 := Ev.oth qa4 (by decide) e3_19
  have e4_20 := Ev.oth qa4 (by decide) e3_20
  have e4_21 := Ev.oth qa4 (by decide) e3_21
  have e4_22 := Ev.sam qa4 (by rw [k3.1, hsz]; decide)
  rw [← qa4]
  clear qa4 e3_10 e3_11 e3_2 e3_19 e3_20 e3_21
  refine pure_ (i := 4) (N := some 23) (v := .pointer (some ⟨B, k, none⟩)) #[true, true, true, true, true, false, false, false, false, false, false, false, false, false] (Rg.of hops (Rg.atS (Rg.atS (Rg.atS (Rg.atS Rg.at0))))) rfl (by kernel_rfl) (fun c _ _ h => hP c _ _ _ (by rfl) h) (Or.inl ⟨Ev.wanted rfl, fun w_ => ?_⟩) rfl ?_
  · have lk : (k : Int) < 4 := by omega
    have lk0 : (0 : Int) ≤ (k : Int) := by omega
    unfold execOp
    generalize a4.eval = ev at *
    go_simp
  obtain ⟨a5, qa5⟩ : ∃ z_, z_ = a4.put (some 23) (.pointer (some ⟨B, k, none⟩)) := ⟨_, rfl⟩
  have k5 : Ev.Stay [19, 20, 21, 22, 23, 24, 25, 26, 27, 28, 29, 30, 31] a a5 := by rw [qa5]; exact k4.put (by decide) _
  have e5_10 := Ev.oth qa5 (by decide) e4_10
  have e5_11 := Ev.oth qa5 (by decide) e4_11
  have e5_2 := Ev.oth qa5 (by decide) e4_2
  have e5_19 := Ev.oth qa5 (by decide) e4_19
  have e5_20 := Ev.oth qa5 (by decide) e4_20
  have e5_21 := Ev.oth qa5 (by decide) e4_21
  have e5_22 := Ev.oth qa5 (by decide) e4_22
  have e5_23 := Ev.sam qa5 (by rw [k4.1, hsz]; decide)
  rw [← qa5]
  clear qa5 e4_10 e4_11 e4_2 e4_19 e4_20 e4_21 e4_22
  clear e5_22
  clear e5_21
  refine take_ (i := 5) (N := some 24) (v := .int .i64 (G k)) #[true, true, true, true, true, true, false, false, false, false, false, false, false, false] (Rg.of hops (Rg.atS (Rg.atS (Rg.atS (Rg.atS (Rg.atS Rg.at0)))))) rfl (by kernel_rfl) (fun c _ _ h => hP c _ _ _ (by rfl) h) (Ev.loadW (Ev.wanted rfl) rfl e5_23 (fun w hw => Ev.load3 (arr_cell hw (by omega)))) hHeld rfl ?_
  obtain ⟨a6, qa6⟩ : ∃ z_, z_ = a5.put (some 24) (.int .i64 (G k)) := ⟨_, rfl⟩
  have k6 : Ev.Stay [19, 20, 21, 22, 23, 24, 25, 26, 27, 28, 29, 30, 31] a a6 := by rw [qa6]; exact k5.put (by decide) _
  have e6_10 := Ev.oth qa6 (by decide) e5_10
  have e6_11 := Ev.oth qa6 (by decide) e5_11
  have e6_2 := Ev.oth qa6 (by decide) e5_2
  have e6_19 := Ev.oth qa6 (by decide) e5_19
  have e6_20 := Ev.oth qa6 (by decide) e5_20
  have e6_23 := Ev.oth qa6 (by decide) e5_23
  have e6_24 := Ev.sam qa6 (by rw [k5.1, hsz]; decide)
  rw [← qa6]
  clear qa6 e5_10 e5_11 e5_2 e5_19 e5_20 e5_23
  clear e6_23
  refine pure_ (i := 6) (N := some 25) (v := .int .i64 (top)) #[true, true, true, true, true, true, true, false, false, false, false, false, false, false] (Rg.of hops (Rg.atS (Rg.atS (Rg.atS (Rg.atS (Rg.atS (Rg.atS Rg.at0))))))) rfl (by kernel_rfl) (fun c _ _ h => hP c _ _ _ (by rfl) h) (Or.inl ⟨Ev.wanted rfl, fun w_ => ?_⟩) rfl ?_
  · unfold execOp
    generalize a6.eval = ev at *
    go_simp
  obtain ⟨a7, qa7⟩ : ∃ z_, z_ = a6.put (some 25) (.int .i64 (top)) := ⟨_, rfl⟩
  have k7 : Ev.Stay [19, 20, 21, 22, 23, 24, 25, 26, 27, 28, 29, 30, 31] a a7 := by rw [qa7]; exact k6.put (by decide) _
  have e7_10 := Ev.oth qa7 (by decide) e6_10
  have e7_11 := Ev.oth qa7 (by decide) e6_11
  have e7_2 := Ev.oth qa7 (by decide) e6_2
  have e7_19 := Ev.oth qa7 (by decide) e6_19
  have e7_20 := Ev.oth qa7 (by decide) e6_20
  have e7_24 := Ev.oth qa7 (by decide) e6_24
  have e7_25 := Ev.sam qa7 (by rw [k6.1, hsz]; decide)
  rw [← qa7]
  clear qa7 e6_10 e6_11 e6_2 e6_19 e6_20 e6_24
  refine pure_ (i := 7) (N := some 26) (v := .int .i64 (k : Int)) #[true, true, true, true, true, true, true, true, false, false, false, false, false, false] (Rg.of hops (Rg.atS (Rg.atS (Rg.atS (Rg.atS (Rg.atS (Rg.atS (Rg.atS Rg.at0)))))))) rfl (by kernel_rfl) (fun c _ _ h => hP c _ _ _ (by rfl) h) (Or.inl ⟨Ev.wanted rfl, fun w_ => ?_⟩) rfl ?_
  · unfold execOp
    generalize a7.eval = ev at *
    go_simp
  obtain ⟨a8, qa8⟩ : ∃ z_, z_ = a7.put (some 26) (.int .i64 (k : Int)) := ⟨_, rfl⟩
  have k8 : Ev.Stay [19, 20, 21, 22, 23, 24, 25, 26, 27, 28, 29, 30, 31] a a8 := by rw [qa8]; exact k7.put (by decide) _
  have e8_10 := Ev.oth qa8 (by decide) e7_10
  have e8_11 := Ev.oth qa8 (by decide) e7_11
  have e8_2 := Ev.oth qa8 (by decide) e7_2
  have e8_19 := Ev.oth qa8 (by decide) e7_19
  have e8_20 := Ev.oth qa8 (by decide) e7_20
  have e8_24 := Ev.oth qa8 (by decide) e7_24
  have e8_25 := Ev.oth qa8 (by decide) e7_25
  have e8_26 := Ev.sam qa8 (by rw [k7.1, hsz]; decide)
  rw [← qa8]
  clear qa8 e7_10 e7_11 e7_2 e7_19 e7_20 e7_24 e7_25
  refine pure_ (i := 8) (N := some 27) (v := .int .i64 (top / 2 ^ k)) #[true, true, true, true, true, true, true, true, true, false, false, false, false, false] (Rg.of hops (Rg.atS (Rg.atS (Rg.atS (Rg.atS (Rg.atS (Rg.atS (Rg.atS (Rg.atS Rg.at0))))))))) rfl (by kernel_rfl) (fun c _ _ h => hP c _ _ _ (by rfl) h) (Or.inl ⟨Ev.wanted rfl, fun w_ => ?_⟩) rfl ?_
  · have lk : (k : Int) < 4 := by omega
    have lk0 : (0 : Int) ≤ (k : Int) := by omega
    unfold execOp
    generalize a8.eval = ev at *
    go_simp
  obtain ⟨a9, qa9⟩ : ∃ z_, z_ = a8.put (some 27) (.int .i64 (top / 2 ^ k)) := ⟨_, rfl⟩
  have k9 : Ev.Stay [19, 20, 21, 22, 23, 24, 25, 26, 27, 28, 29, 30, 31] a a9 := by rw [qa9]; exact k8.put (by decide) _
  have e9_10 := Ev.oth qa9 (by decide) e8_10
  have e9_11 := Ev.oth qa9 (by decide) e8_11
  have e9_2 := Ev.oth qa9 (by decide) e8_2
  have e9_19 := Ev.oth qa9 (by decide) e8_19
  have e9_20 := Ev.oth qa9 (by decide) e8_20
  have e9_24 := Ev.oth qa9 (by decide) e8_24
  have e9_25 := Ev.oth qa9 (by decide) e8_25
  have e9_26 := Ev.oth qa9 (by decide) e8_26
  have e9_27 := Ev.sam qa9 (by rw [k8.1, hsz]; decide)
  rw [← qa9]
  clear qa9 e8_10 e8_11 e8_2 e8_19 e8_20 e8_24 e8_25 e8_26
  refine pure_ (i := 9) (N := some 28) (v := .int .i64 (bt)) #[true, true, true, true, true, true, true, true, true, true, false, false, false, false] (Rg.of hops (Rg.atS (Rg.atS (Rg.atS (Rg.atS (Rg.atS (Rg.atS (Rg.atS (Rg.atS (Rg.atS Rg.at0)))))))))) rfl (by kernel_rfl) (fun c _ _ h => hP c _ _ _ (by rfl) h) (Or.inl ⟨Ev.wanted rfl, fun w_ => ?_⟩) rfl ?_
  · have ec0 : a9.eval (.const (.int .i64 (1))) = .int .i64 (1) := rfl
    have hb_ := hb
    unfold execOp
    generalize a9.eval = ev at *
    go_simp
  obtain ⟨a10, qa10⟩ : ∃ z_, z_ = a9.put (some 28) (.int .i64 (bt)) := ⟨_, rfl⟩
  have k10 : Ev.Stay [19, 20, 21, 22, 23, 24, 25, 26, 27, 28, 29, 30, 31] a a10 := by rw [qa10]; exact k9.put (by decide) _
  have e10_10 := Ev.oth qa10 (by decide) e9_10
  have e10_11 := Ev.oth qa10 (by decide) e9_11
  have e10_2 := Ev.oth qa10 (by decide) e9_2
  have e10_19 := Ev.oth qa10 (by decide) e9_19
  have e10_20 := Ev.oth qa10 (by decide) e9_20
  have e10_24 := Ev.oth qa10 (by decide) e9_24
  have e10_25 := Ev.oth qa10 (by decide) e9_25
  have e10_26 := Ev.oth qa10 (by decide) e9_26
  have e10_27 := Ev.oth qa10 (by decide) e9_27
  have e10_28 := Ev.sam qa10 (by rw [k9.1, hsz]; decide)
  rw [← qa10]
  clear qa10 e9_10 e9_11 e9_2 e9_19 e9_20 e9_24 e9_25 e9_26 e9_27
  clear e10_25
  clear e10_26
  clear e10_27
  refine pure_ (i := 10) (N := some 29) (v := .int .i64 (G k + bt)) #[true, true, true, true, true, true, true, true, true, true, true, false, false, false] (Rg.of hops (Rg.atS (Rg.atS (Rg.atS (Rg.atS (Rg.atS (Rg.atS (Rg.atS (Rg.atS (Rg.atS (Rg.atS Rg.at0))))))))))) rfl (by kernel_rfl) (fun c _ _ h => hP c _ _ _ (by rfl) h) (Or.inl ⟨Ev.wanted rfl, fun w_ => ?_⟩) rfl ?_
  · have g1 := hg.1
    have g2 := hg.2
    have b1 := hbt.1
    have b2 := hbt.2
    unfold execOp
    generalize a10.eval = ev at *
    (go_simp; exact wr (by omega) (by omega))
  obtain ⟨a11, qa11⟩ : ∃ z_, z_ = a10.put (some 29) (.int .i64 (G k + bt)) := ⟨_, rfl⟩
  have k11 : Ev.Stay [19, 20, 21, 22, 23, 24, 25, 26, 27, 28, 29, 30, 31] a a11 := by rw [qa11]; exact k10.put (by decide) _
  have e11_10 := Ev.oth qa11 (by decide) e10_10
  have e11_11 := Ev.oth qa11 (by decide) e10_11
  have e11_2 := Ev.oth qa11 (by decide) e10_2
  have e11_19 := Ev.oth qa11 (by decide) e10_19
  have e11_20 := Ev.oth qa11 (by decide) e10_20
  have e11_24 := Ev.oth qa11 (by decide) e10_24
  have e11_28 := Ev.oth qa11 (by decide) e10_28
  have e11_29 := Ev.sam qa11 (by rw [k10.1, hsz]; decide)
  rw [← qa11]
  clear qa11 e10_10 e10_11 e10_2 e10_19 e10_20 e10_24 e10_28
  clear e11_24
  clear e11_28
  refine pure_ (i := 11) (N := some 30) (v := .pointer (some ⟨B, 0, none⟩)) #[true, true, true, true, true, true, true, true, true, true, true, true, false, false] (Rg.of hops (Rg.atS (Rg.atS (Rg.atS (Rg.atS (Rg.atS (Rg.atS (Rg.atS (Rg.atS (Rg.atS (Rg.atS (Rg.atS Rg.at0)))))))))))) rfl (by kernel_rfl) (fun c _ _ h => hP c _ _ _ (by rfl) h) (Or.inl ⟨Ev.wanted rfl, fun w_ => ?_⟩) rfl ?_
  · have ec0 : a11.eval (.const (.int .i64 (0))) = .int .i64 (0) := rfl
    unfold execOp
    generalize a11.eval = ev at *
    go_simp
  obtain ⟨a12, qa12⟩ : ∃ z_, z_ = a11.put (some 30) (.pointer (some ⟨B, 0, none⟩)) := ⟨_, rfl⟩
  have k12 : Ev.Stay [19, 20, 21, 22, 23, 24, 25, 26, 27, 28, 29, 30, 31] a a12 := by rw [qa12]; exact k11.put (by decide) _
  have e12_10 := Ev.oth qa12 (by decide) e11_10
  have e12_11 := Ev.oth qa12 (by decide) e11_11
  have e12_2 := Ev.oth qa12 (by decide) e11_2
  have e12_19 := Ev.oth qa12 (by decide) e11_19
  have e12_20 := Ev.oth qa12 (by decide) e11_20
  have e12_29 := Ev.oth qa12 (by decide) e11_29
  have e12_30 := Ev.sam qa12 (by rw [k11.1, hsz]; decide)
  rw [← qa12]
  clear qa12 e11_10 e11_11 e11_2 e11_19 e11_20 e11_29
  refine pure_ (i := 12) (N := some 31) (v := .pointer (some ⟨B, k + 1, none⟩)) #[true, true, true, true, true, true, true, true, true, true, true, true, true, false] (Rg.of hops (Rg.atS (Rg.atS (Rg.atS (Rg.atS (Rg.atS (Rg.atS (Rg.atS (Rg.atS (Rg.atS (Rg.atS (Rg.atS (Rg.atS Rg.at0))))))))))))) rfl (by kernel_rfl) (fun c _ _ h => hP c _ _ _ (by rfl) h) (Or.inl ⟨Ev.wanted rfl, fun w_ => ?_⟩) rfl ?_
  · have lk : (k : Int) + 1 < 4 := by omega
    have lk0 : (0 : Int) ≤ (k : Int) + 1 := by omega
    unfold execOp
    generalize a12.eval = ev at *
    go_simp
  obtain ⟨a13, qa13⟩ : ∃ z_, z_ = a12.put (some 31) (.pointer (some ⟨B, k + 1, none⟩)) := ⟨_, rfl⟩
  have k13 : Ev.Stay [19, 20, 21, 22, 23, 24, 25, 26, 27, 28, 29, 30, 31] a a13 := by rw [qa13]; exact k12.put (by decide) _
  have e13_10 := Ev.oth qa13 (by decide) e12_10
  have e13_11 := Ev.oth qa13 (by decide) e12_11
  have e13_2 := Ev.oth qa13 (by decide) e12_2
  have e13_19 := Ev.oth qa13 (by decide) e12_19
  have e13_20 := Ev.oth qa13 (by decide) e12_20
  have e13_29 := Ev.oth qa13 (by decide) e12_29
  have e13_30 := Ev.oth qa13 (by decide) e12_30
  have e13_31 := Ev.sam qa13 (by rw [k12.1, hsz]; decide)
  rw [← qa13]
  clear qa13 e12_10 e12_11 e12_2 e12_19 e12_20 e12_29 e12_30
  clear e13_30
  clear e13_20
  refine last_ (i := 13) (N := none) #[true, true, true, true, true, true, true, true, true, true, true, true, true, true] (Rg.of hops (Rg.atS (Rg.atS (Rg.atS (Rg.atS (Rg.atS (Rg.atS (Rg.atS (Rg.atS (Rg.atS (Rg.atS (Rg.atS (Rg.atS (Rg.atS Rg.at0)))))))))))))) rfl (by kernel_rfl) (by decide) (fun K hK => ?_)
  rw [if_pos (Ev.wanted rfl)]
  refine Ev.store rfl rfl e13_31 e13_29 (Ev.store3 (arr_cell hHeld (by omega)) (arr_frozen hHeld)) ?_
  refine hK.out _ _ ?_
  refine done_ (by kernel_rfl) ?_
  exact hQ _ k13
set_option maxHeartbeats 2000000 in
theorem Rg.s6 {id : Nat} {Q : Exit → Act → World → Prop} {a : Act} {W : World} {B k : Nat} {left bt : Int} {G : Nat → Int}
    (hsz : a.tmps.size = 137) (hP : ∀ c a a' w, a'.defers = a.defers → Q (.panic c) a w → Q (.panic c) a' w)  (h10 : a.eval (.tmp 10) = .pointer (some ⟨B, 0, none⟩)) (h11 : a.eval (.tmp 11) = .int .i64 (k : Int)) (h3 : a.eval (.tmp 3) = .int .i64 (left)) (hG : W.drew.heap[B]? = some (.cells (arr G) 81 (0, 0))) (hk : k < 3) (hb : bits .and .i64 (left / 2 ^ k) 1 = bt) (hbt : 0 ≤ bt ∧ bt ≤ 1) (hg : 0 ≤ G (k * 4) ∧ G (k * 4) ≤ 100)
    (hQ : ∀ a', Ev.Stay [32, 33, 34, 35, 36, 37, 38, 39, 40, 41, 42, 43, 44] a a' → Q .normal a' (W.drew.setCell ⟨B, (k + 1) * 4, none⟩ (.int .i64 (G (k * 4) + bt)))) : (Code.region id (Rg.ops 33 6) true).wp Try.prog Q a W := by
  have hops : Rg.ops 33 6 = List.toArray [_, _, _, _, _, _, _, _, _, _, _, _, _, _] := rfl
  refine start_ (S := fun w_ => w_.heap[B]? = some (.cells (arr G) 81 (0, 0))) (ds := [13]) #[false, false, false, false, false, false, false, false, false, false, false, false, false, false] (by kernel_rfl) (n := 14) rfl rfl ?S0 (fun hHeld => ?_)
  case S0 => exact hG
  have k0 : Ev.Stay [32, 33, 34, 35, 36, 37, 38, 39, 40, 41, 42, 43, 44] a a := Ev.Stay.refl [32, 33, 34, 35, 36, 37, 38, 39, 40, 41, 42, 43, 44] a
  refine pure_ (i := 0) (N := some 32) (v := .int .i64 (k : Int)) #[true, false, false, false, false, false, false, false, false, false, false, false, false, false] (Rg.of hops Rg.at0) rfl (by kernel_rfl) (fun c _ _ h => hP c _ _ _ (by rfl) h) (Or.inl ⟨Ev.wanted rfl, fun w_ => ?_⟩) rfl ?_
  · unfold execOp
    generalize a.eval = ev at *
    go_simp
  obtain ⟨a1, qa1⟩ : ∃ z_, z_ = a.put (some 32) (.int .i64 (k : Int)) := ⟨_, rfl⟩
  have k1 : Ev.Stay [32, 33, 34, 35, 36, 37, 38, 39, 40, 41, 42, 43, 44] a a1 := by rw [qa1]; exact k0.put (by decide) _
  have e1_10 := Ev.oth qa1 (by decide) h10
  have e1_11 := Ev.oth qa1 (by decide) h11
  have e1_3 := Ev.oth qa1 (by decide) h3
  have e1_32 := Ev.sam qa1 (by rw [k0.1, hsz]; decide)
  rw [← qa1]
  clear qa1 
  refine pure_ (i := 1) (N := some 33) (v := .int .i64 ((k + 1 : Nat) : Int)) #[true, true, false, false, false, false, false, false, false, false, false, false, false, false] (Rg.of hops (Rg.atS Rg.at0)) rfl (by kernel_rfl) (fun c _ _ h => hP c _ _ _ (by rfl) h) (Or.inl ⟨Ev.wanted rfl, fun w_ => ?_⟩) rfl ?_
  · have ec0 : a1.eval (.const (.int .i64 (1))) = .int .i64 (1) := rfl
    have lk : (k : Int) < 4 := by omega
    have lk0 : (0 : Int) ≤ (k : Int) := by omega
    unfold execOp
    generalize a1.eval = ev at *
    (go_simp; exact wr (by omega) (by omega))
  obtain ⟨a2, qa2⟩ : ∃ z_, z_ = a1.put (some 33) (.int .i64 ((k + 1 : Nat) : Int)) := ⟨_, rfl⟩
  have k2 : Ev.Stay [32, 33, 34, 35, 36, 37, 38, 39, 40, 41, 42, 43, 44] a a2 := by rw [qa2]; exact k1.put (by decide) _
  have e2_10 := Ev.oth qa2 (by decide) e1_10
  have e2_11 := Ev.oth qa2 (by decide) e1_11
  have e2_3 := Ev.oth qa2 (by decide) e1_3
  have e2_32 := Ev.oth qa2 (by decide) e1_32
  have e2_33 := Ev.sam qa2 (by rw [k1.1, hsz]; decide)
  rw [← qa2]
  clear qa2 e1_10 e1_11 e1_3 e1_32
  refine pure_ (i := 2) (N := some 34) (v := .int .i64 (k : Int)) #[true, true, true, false, false, false, false, false, false, false, false, false, false, false] (Rg.of hops (Rg.atS (Rg.atS Rg.at0))) rfl (by kernel_rfl) (fun c _ _ h => hP c _ _ _ (by rfl) h) (Or.inl ⟨Ev.wanted rfl, fun w_ => ?_⟩) rfl ?_
  · unfold execOp
    generalize a2.eval = ev at *
    go_simp
  obtain ⟨a3, qa3⟩ : ∃ z_, z_ = a2.put (some 34) (.int .i64 (k : Int)) := ⟨_, rfl⟩
  have k3 : Ev.Stay [32, 33, 34, 35, 36, 37, 38, 39, 40, 41, 42, 43, 44] a a3 := by rw [qa3]; exact k2.put (by decide) _
  have e3_10 := Ev.oth qa3 (by decide) e2_10
  have e3_11 := Ev.oth qa3 (by decide) e2_11
  have e3_3 := Ev.oth qa3 (by decide) e2_3
  have e3_32 := Ev.oth qa3 (by decide) e2_32
  have e3_33 := Ev.oth qa3 (by decide) e2_33
  have e3_34 := Ev.sam qa3 (by rw [k2.1, hsz]; decide)
  rw [← qa3]
  clear qa3 e2_10 e2_11 e2_3 e2_32 e2_33
  refine pure_ (i := 3) (N := some 35) (v := .pointer (some ⟨B, k * 4, none⟩)) #[true, true, true, true, false, false, false, false, false, false, false, false, false, false] (Rg.of hops (Rg.atS (Rg.atS (Rg.atS Rg.at0)))) rfl (by kernel_rfl) (fun c _ _ h => hP c _ _ _ (by rfl) h) (Or.inl ⟨Ev.wanted rfl, fun w_ => ?_⟩) rfl ?_
  · have lk : (k : Int) < 4 := by omega
    have lk0 : (0 : Int) ≤ (k : Int) := by omega
    unfold execOp
    generalize a3.eval = ev at *
    go_simp
  obtain ⟨a4, qa4⟩ : ∃ z_, z_ = a3.put (some 35) (.pointer (some ⟨B, k * 4, none⟩)) := ⟨_, rfl⟩
  have k4 : Ev.Stay [32, 33, 34, 35, 36, 37, 38, 39, 40, 41, 42, 43, 44] a a4 := by rw [qa4]; exact k3.put (by decide) _
  have e4_10 := Ev.oth qa4 (by decide) e3_10
  have e4_11 := Ev.oth qa4 (by decide) e3_11
  have e4_3 := Ev.oth qa4 (by decide) e3_3
  have e4_32 := Ev.oth qa4 (by decide) e3_32
  have e4_33 := Ev.oth qa4 (by decide) e3_33
  have e4_34 := Ev.oth qa4 (by decide) e3_34
  have e4_35 := Ev.sam qa4 (by rw [k3.1, hsz]; decide)
  rw [← qa4]
  clear qa4 e3_10 e3_11 e3_3 e3_32 e3_33 e3_34
  refine pure_ (i := 4) (N := some 36) (v := .pointer (some ⟨B, k * 4, none⟩)) #[true, true, true, true, true, false, false, false, false, false, false, false, false, false] (Rg.of hops (Rg.atS (Rg.atS (Rg.atS (Rg.atS Rg.at0))))) rfl (by kernel_rfl) (fun c _ _ h => hP c _ _ _ (by rfl) h) (Or.inl ⟨Ev.wanted rfl, fun w_ => ?_⟩) rfl ?_
  · have ec0 : a4.eval (.const (.int .i64 (0))) = .int .i64 (0) := rfl
    unfold execOp
    generalize a4.eval = ev at *
    go_simp
  obtain ⟨a5, qa5⟩ : ∃ z_, z_ = a4.put (some 36) (.pointer (some ⟨B, k * 4, none⟩)) := ⟨_, rfl⟩
  have k5 : Ev.Stay [32, 33, 34, 35, 36, 37, 38, 39, 40, 41, 42, 43, 44] a a5 := by rw [qa5]; exact k4.put (by decide) _
  have e5_10 := Ev.oth qa5 (by decide) e4_10
  have e5_11 := Ev.oth qa5 (by decide) e4_11
  have e5_3 := Ev.oth qa5 (by decide) e4_3
  have e5_32 := Ev.oth qa5 (by decide) e4_32
  have e5_33 := Ev.oth qa5 (by decide) e4_33
  have e5_34 := Ev.oth qa5 (by decide) e4_34
  have e5_35 := Ev.oth qa5 (by decide) e4_35
  have e5_36 := Ev.sam qa5 (by rw [k4.1, hsz]; decide)
  rw [← qa5]
  clear qa5 e4_10 e4_11 e4_3 e4_32 e4_33 e4_34 e4_35
  clear e5_34
  clear e5_35
  refine take_ (i := 5) (N := some 37) (v := .int .i64 (G (k * 4))) #[true, true, true, true, true, true, false, false, false, false, false, false, false, false] (Rg.of hops (Rg.atS (Rg.atS (Rg.atS (Rg.atS (Rg.atS Rg.at0)))))) rfl (by kernel_rfl) (fun c _ _ h => hP c _ _ _ (by rfl) h) (Ev.loadW (Ev.wanted rfl) rfl e5_36 (fun w hw => Ev.load3 (arr_cell hw (by omega)))) hHeld rfl ?_
  obtain ⟨a6, qa6⟩ : ∃ z_, z_ = a5.put (some 37) (.int .i64 (G (k * 4))) := ⟨_, rfl⟩
  have k6 : Ev.Stay [32, 33, 34, 35, 36, 37, 38, 39, 40, 41, 42, 43, 44] a a6 := by rw [qa6]; exact k5.put (by decide) _
  have e6_10 := Ev.oth qa6 (by decide) e5_10
  have e6_11 := Ev.oth qa6 (by decide) e5_11
  have e6_3 := Ev.oth qa6 (by decide) e5_3
  have e6_32 := Ev.oth qa6 (by decide) e5_32
  have e6_33 := Ev.oth qa6 (by decide) e5_33
  have e6_36 := Ev.oth qa6 (by decide) e5_36
  have e6_37 := Ev.sam qa6 (by rw [k5.1, hsz]; decide)
  rw [← qa6]
  clear qa6 e5_10 e5_11 e5_3 e5_32 e5_33 e5_36
  clear e6_36
  refine pure_ (i := 6) (N := some 38) (v := .int .i64 (left)) #[true, true, true, true, true, true, true, false, false, false, false, false, false, false] (Rg.of hops (Rg.atS (Rg.atS (Rg.atS (Rg.atS (Rg.atS (Rg.atS Rg.at0))))))) rfl (by kernel_rfl) (fun c _ _ h => hP c _ _ _ (by rfl) h) (Or.inl ⟨Ev.wanted rfl, fun w_ => ?_⟩) rfl ?_
  · unfold execOp
    generalize a6.eval = ev at *
    go_simp
  obtain ⟨a7, qa7⟩ : ∃ z_, z_ = a6.put (some 38) (.int .i64 (left)) := ⟨_, rfl⟩
  have k7 : Ev.Stay [32, 33, 34, 35, 36, 37, 38, 39, 40, 41, 42, 43, 44] a a7 := by rw [qa7]; exact k6.put (by decide) _
  have e7_10 := Ev.oth qa7 (by decide) e6_10
  have e7_11 := Ev.oth qa7 (by decide) e6_11
  have e7_3 := Ev.oth qa7 (by decide) e6_3
  have e7_32 := Ev.oth qa7 (by decide) e6_32
  have e7_33 := Ev.oth qa7 (by decide) e6_33
  have e7_37 := Ev.oth qa7 (by decide) e6_37
  have e7_38 := Ev.sam qa7 (by rw [k6.1, hsz]; decide)
  rw [← qa7]
  clear qa7 e6_10 e6_11 e6_3 e6_32 e6_33 e6_37
  refine pure_ (i := 7) (N := some 39) (v := .int .i64 (k : Int)) #[true, true, true, true, true, true, true, true, false, false, false, false, false, false] (Rg.of hops (Rg.atS (Rg.atS (Rg.atS (Rg.atS (Rg.atS (Rg.atS (Rg.atS Rg.at0)))))))) rfl (by kernel_rfl) (fun c _ _ h => hP c _ _ _ (by rfl) h) (Or.inl ⟨Ev.wanted rfl, fun w_ => ?_⟩) rfl ?_
  · unfold execOp
    generalize a7.eval = ev at *
    go_simp
  obtain ⟨a8, qa8⟩ : ∃ z_, z_ = a7.put (some 39) (.int .i64 (k : Int)) := ⟨_, rfl⟩
  have k8 : Ev.Stay [32, 33, 34, 35, 36, 37, 38, 39, 40, 41, 42, 43, 44] a a8 := by rw [qa8]; exact k7.put (by decide) _
  have e8_10 := Ev.oth qa8 (by decide) e7_10
  have e8_11 := Ev.oth qa8 (by decide) e7_11
  have e8_3 := Ev.oth qa8 (by decide) e7_3
  have e8_32 := Ev.oth qa8 (by decide) e7_32
  have e8_33 := Ev.oth qa8 (by decide) e7_33
  have e8_37 := Ev.oth qa8 (by decide) e7_37
  have e8_38 := Ev.oth qa8 (by decide) e7_38
  have e8_39 := Ev.sam qa8 (by rw [k7.1, hsz]; decide)
  rw [← qa8]
  clear qa8 e7_10 e7_11 e7_3 e7_32 e7_33 e7_37 e7_38
  refine pure_ (i := 8) (N := some 40) (v := .int .i64 (left / 2 ^ k)) #[true, true, true, true, true, true, true, true, true, false, false, false, false, false] (Rg.of hops (Rg.atS (Rg.atS (Rg.atS (Rg.atS (Rg.atS (Rg.atS (Rg.atS (Rg.atS Rg.at0))))))))) rfl (by kernel_rfl) (fun c _ _ h => hP c _ _ _ (by rfl) h) (Or.inl ⟨Ev.wanted rfl, fun w_ => ?_⟩) rfl ?_
  · have lk : (k : Int) < 4 := by omega
    have lk0 : (0 : Int) ≤ (k : Int) := by omega
    unfold execOp
    generalize a8.eval = ev at *
    go_simp
  obtain ⟨a9, qa9⟩ : ∃ z_, z_ = a8.put (some 40) (.int .i64 (left / 2 ^ k)) := ⟨_, rfl⟩
  have k9 : Ev.Stay [32, 33, 34, 35, 36, 37, 38, 39, 40, 41, 42, 43, 44] a a9 := by rw [qa9]; exact k8.put (by decide) _
  have e9_10 := Ev.oth qa9 (by decide) e8_10
  have e9_11 := Ev.oth qa9 (by decide) e8_11
  have e9_3 := Ev.oth qa9 (by decide) e8_3
  have e9_32 := Ev.oth qa9 (by decide) e8_32
  have e9_33 := Ev.oth qa9 (by decide) e8_33
  have e9_37 := Ev.oth qa9 (by decide) e8_37
  have e9_38 := Ev.oth qa9 (by decide) e8_38
  have e9_39 := Ev.oth qa9 (by decide) e8_39
  have e9_40 := Ev.sam qa9 (by rw [k8.1, hsz]; decide)
  rw [← qa9]
  clear qa9 e8_10 e8_11 e8_3 e8_32 e8_33 e8_37 e8_38 e8_39
  refine pure_ (i := 9) (N := some 41) (v := .int .i64 (bt)) #[true, true, true, true, true, true, true, true, true, true, false, false, false, false] (Rg.of hops (Rg.atS (Rg.atS (Rg.atS (Rg.atS (Rg.atS (Rg.atS (Rg.atS (Rg.atS (Rg.atS Rg.at0)))))))))) rfl (by kernel_rfl) (fun c _ _ h => hP c _ _ _ (by rfl) h) (Or.inl ⟨Ev.wanted rfl, fun w_ => ?_⟩) rfl ?_
  · have ec0 : a9.eval (.const (.int .i64 (1))) = .int .i64 (1) := rfl
    have hb_ := hb
    unfold execOp
    generalize a9.eval = ev at *
    go_simp
  obtain ⟨a10, qa10⟩ : ∃ z_, z_ = a9.put (some 41) (.int .i64 (bt)) := ⟨_, rfl⟩
  have k10 : Ev.Stay [32, 33, 34, 35, 36, 37, 38, 39, 40, 41, 42, 43, 44] a a10 := by rw [qa10]; exact k9.put (by decide) _
  have e10_10 := Ev.oth qa10 (by decide) e9_10
  have e10_11 := Ev.oth qa10 (by decide) e9_11
  have e10_3 := Ev.oth qa10 (by decide) e9_3
  have e10_32 := Ev.oth qa10 (by decide) e9_32
  have e10_33 := Ev.oth qa10 (by decide) e9_33
  have e10_37 := Ev.oth qa10 (by decide) e9_37
  have e10_38 := Ev.oth qa10 (by decide) e9_38
  have e10_39 := Ev.oth qa10 (by decide) e9_39
  have e10_40 := Ev.oth qa10 (by decide) e9_40
  have e10_41 := Ev.sam qa10 (by rw [k9.1, hsz]; decide)
  rw [← qa10]
  clear qa10 e9_10 e9_11 e9_3 e9_32 e9_33 e9_37 e9_38 e9_39 e9_40
  clear e10_38
  clear e10_39
  clear e10_40
  refine pure_ (i := 10) (N := some 42) (v := .int .i64 (G (k * 4) + bt)) #[true, true, true, true, true, true, true, true, true, true, true, false, false, false] (Rg.of hops (Rg.atS (Rg.atS (Rg.atS (Rg.atS (Rg.atS (Rg.atS (Rg.atS (Rg.atS (Rg.atS (Rg.atS Rg.at0))))))))))) rfl (by kernel_rfl) (fun c _ _ h => hP c _ _ _ (by rfl) h) (Or.inl ⟨Ev.wanted rfl, fun w_ => ?_⟩) rfl ?_
  · have g1 := hg.1
    have g2 := hg.2
    have b1 := hbt.1
    have b2 := hbt.2
    unfold execOp
    generalize a10.eval = ev at *
    (go_simp; exact wr (by omega) (by omega))
  obtain ⟨a11, qa11⟩ : ∃ z_, z_ = a10.put (some 42) (.int .i64 (G (k * 4) + bt)) := ⟨_, rfl⟩
  have k11 : Ev.Stay [32, 33, 34, 35, 36, 37, 38, 39, 40, 41, 42, 43, 44] a a11 := by rw [qa11]; exact k10.put (by decide) _
  have e11_10 := Ev.oth qa11 (by decide) e10_10
  have e11_11 := Ev.oth qa11 (by decide) e10_11
  have e11_3 := Ev.oth qa11 (by decide) e10_3
  have e11_32 := Ev.oth qa11 (by decide) e10_32
  have e11_33 := Ev.oth qa11 (by decide) e10_33
  have e11_37 := Ev.oth qa11 (by decide) e10_37
  have e11_41 := Ev.oth qa11 (by decide) e10_41
  have e11_42 := Ev.sam qa11 (by rw [k10.1, hsz]; decide)
  rw [← qa11]
  clear qa11 e10_10 e10_11 e10_3 e10_32 e10_33 e10_37 e10_41
  clear e11_37
  clear e11_41
  refine pure_ (i := 11) (N := some 43) (v := .pointer (some ⟨B, (k + 1) * 4, none⟩)) #[true, true, true, true, true, true, true, true, true, true, true, true, false, false] (Rg.of hops (Rg.atS (Rg.atS (Rg.atS (Rg.atS (Rg.atS (Rg.atS (Rg.atS (Rg.atS (Rg.atS (Rg.atS (Rg.atS Rg.at0)))))))))))) rfl (by kernel_rfl) (fun c _ _ h => hP c _ _ _ (by rfl) h) (Or.inl ⟨Ev.wanted rfl, fun w_ => ?_⟩) rfl ?_
  · have lk : (k : Int) + 1 < 4 := by omega
    have lk0 : (0 : Int) ≤ (k : Int) + 1 := by omega
    unfold execOp
    generalize a11.eval = ev at *
    go_simp
  obtain ⟨a12, qa12⟩ : ∃ z_, z_ = a11.put (some 43) (.pointer (some ⟨B, (k + 1) * 4, none⟩)) := ⟨_, rfl⟩
  have k12 : Ev.Stay [32, 33, 34, 35, 36, 37, 38, 39, 40, 41, 42, 43, 44] a a12 := by rw [qa12]; exact k11.put (by decide) _
  have e12_10 := Ev.oth qa12 (by decide) e11_10
  have e12_11 := Ev.oth qa12 (by decide) e11_11
  have e12_3 := Ev.oth qa12 (by decide) e11_3
  have e12_32 := Ev.oth qa12 (by decide) e11_32
  have e12_33 := Ev.oth qa12 (by decide) e11_33
  have e12_42 := Ev.oth qa12 (by decide) e11_42
  have e12_43 := Ev.sam qa12 (by rw [k11.1, hsz]; decide)
  rw [← qa12]
  clear qa12 e11_10 e11_11 e11_3 e11_32 e11_33 e11_42
  clear e12_33
  refine pure_ (i := 12) (N := some 44) (v := .pointer (some ⟨B, (k + 1) * 4, none⟩)) #[true, true, true, true, true, true, true, true, true, true, true, true, true, false] (Rg.of hops (Rg.atS (Rg.atS (Rg.atS (Rg.atS (Rg.atS (Rg.atS (Rg.atS (Rg.atS (Rg.atS (Rg.atS (Rg.atS (Rg.atS Rg.at0))))))))))))) rfl (by kernel_rfl) (fun c _ _ h => hP c _ _ _ (by rfl) h) (Or.inl ⟨Ev.wanted rfl, fun w_ => ?_⟩) rfl ?_
  · have ec0 : a12.eval (.const (.int .i64 (0))) = .int .i64 (0) := rfl
    unfold execOp
    generalize a12.eval = ev at *
    go_simp
  obtain ⟨a13, qa13⟩ : ∃ z_, z_ = a12.put (some 44) (.pointer (some ⟨B, (k + 1) * 4, none⟩)) := ⟨_, rfl⟩
  have k13 : Ev.Stay [32, 33, 34, 35, 36, 37, 38, 39, 40, 41, 42, 43, 44] a a13 := by rw [qa13]; exact k12.put (by decide) _
  have e13_10 := Ev.oth qa13 (by decide) e12_10
  have e13_11 := Ev.oth qa13 (by decide) e12_11
  have e13_3 := Ev.oth qa13 (by decide) e12_3
  have e13_32 := Ev.oth qa13 (by decide) e12_32
  have e13_42 := Ev.oth qa13 (by decide) e12_42
  have e13_43 := Ev.oth qa13 (by decide) e12_43
  have e13_44 := Ev.sam qa13 (by rw [k12.1, hsz]; decide)
  rw [← qa13]
  clear qa13 e12_10 e12_11 e12_3 e12_32 e12_42 e12_43
  clear e13_43
  refine last_ (i := 13) (N := none) #[true, true, true, true, true, true, true, true, true, true, true, true, true, true] (Rg.of hops (Rg.atS (Rg.atS (Rg.atS (Rg.atS (Rg.atS (Rg.atS (Rg.atS (Rg.atS (Rg.atS (Rg.atS (Rg.atS (Rg.atS (Rg.atS Rg.at0)))))))))))))) rfl (by kernel_rfl) (by decide) (fun K hK => ?_)
  rw [if_pos (Ev.wanted rfl)]
  refine Ev.store rfl rfl e13_44 e13_42 (Ev.store3 (arr_cell hHeld (by omega)) (arr_frozen hHeld)) ?_
  refine hK.out _ _ ?_
  refine done_ (by kernel_rfl) ?_
  exact hQ _ k13
set_option maxHeartbeats 2000000 in
theorem Rg.s15 {id : Nat} {Q : Exit → Act → World → Prop} {a : Act} {W : World} {B r c : Nat} {G : Nat → Int}
    (hsz : a.tmps.size = 137) (hP : ∀ c a a' w, a'.defers = a.defers → Q (.panic c) a w → Q (.panic c) a' w)  (h10 : a.eval (.tmp 10) = .pointer (some ⟨B, 0, none⟩)) (h12 : a.eval (.tmp 12) = .int .i64 (r : Int)) (h13 : a.eval (.tmp 13) = .int .i64 (c : Int)) (hG : W.drew.heap[B]? = some (.cells (arr G) 81 (0, 0))) (hr : r < 3) (hc : c < 3) (hg : 0 ≤ G (r * 4 + c) ∧ G (r * 4 + c) ≤ 100)
    (hQ : ∀ a', Ev.Stay [63, 64, 65, 66, 67, 68, 69, 70, 71, 72, 73, 74] a a' → Q .normal a' (W.drew.setCell ⟨B, (r + 1) * 4 + (c + 1), none⟩ (.int .i64 (G (r * 4 + c) + 1)))) : (Code.region id (Rg.ops 33 15) true).wp Try.prog Q a W := by
  have hops : Rg.ops 33 15 = List.toArray [_, _, _, _, _, _, _, _, _, _, _, _, _] := rfl
  refine start_ (S := fun w_ => w_.heap[B]? = some (.cells (arr G) 81 (0, 0))) (ds := [12]) #[false, false, false, false, false, false, false, false, false, false, false, false, false] (by kernel_rfl) (n := 13) rfl rfl ?S0 (fun hHeld => ?_)
  case S0 => exact hG
  have k0 : Ev.Stay [63, 64, 65, 66, 67, 68, 69, 70, 71, 72, 73, 74] a a := Ev.Stay.refl [63, 64, 65, 66, 67, 68, 69, 70, 71, 72, 73, 74] a
  refine pure_ (i := 0) (N := some 63) (v := .int .i64 (r : Int)) #[true, false, false, false, false, false, false, false, false, false, false, false, false] (Rg.of hops Rg.at0) rfl (by kernel_rfl) (fun c _ _ h => hP c _ _ _ (by rfl) h) (Or.inl ⟨Ev.wanted rfl, fun w_ => ?_⟩) rfl ?_
  · unfold execOp
    generalize a.eval = ev at *
    go_simp
  obtain ⟨a1, qa1⟩ : ∃ z_, z_ = a.put (some 63) (.int .i64 (r : Int)) := ⟨_, rfl⟩
  have k1 : Ev.Stay [63, 64, 65, 66, 67, 68, 69, 70, 71, 72, 73, 74] a a1 := by rw [qa1]; exact k0.put (by decide) _
  have e1_10 := Ev.oth qa1 (by decide) h10
  have e1_12 := Ev.oth qa1 (by decide) h12
  have e1_13 := Ev.oth qa1 (by decide) h13
  have e1_63 := Ev.sam qa1 (by rw [k0.1, hsz]; decide)
  rw [← qa1]
  clear qa1 
  refine pure_ (i := 1) (N := some 64) (v := .int .i64 ((r + 1 : Nat) : Int)) #[true, true, false, false, false, false, false, false, false, false, false, false, false] (Rg.of hops (Rg.atS Rg.at0)) rfl (by kernel_rfl) (fun c _ _ h => hP c _ _ _ (by rfl) h) (Or.inl ⟨Ev.wanted rfl, fun w_ => ?_⟩) rfl ?_
  · have ec0 : a1.eval (.const (.int .i64 (1))) = .int .i64 (1) := rfl
    unfold execOp
    generalize a1.eval = ev at *
    (go_simp; exact wr (by omega) (by omega))
  obtain ⟨a2, qa2⟩ : ∃ z_, z_ = a1.put (some 64) (.int .i64 ((r + 1 : Nat) : Int)) := ⟨_, rfl⟩
  have k2 : Ev.Stay [63, 64, 65, 66, 67, 68, 69, 70, 71, 72, 73, 74] a a2 := by rw [qa2]; exact k1.put (by decide) _
  have e2_10 := Ev.oth qa2 (by decide) e1_10
  have e2_12 := Ev.oth qa2 (by decide) e1_12
  have e2_13 := Ev.oth qa2 (by decide) e1_13
  have e2_63 := Ev.oth qa2 (by decide) e1_63
  have e2_64 := Ev.sam qa2 (by rw [k1.1, hsz]; decide)
  rw [← qa2]
  clear qa2 e1_10 e1_12 e1_13 e1_63
  clear e2_63
  refine pure_ (i := 2) (N := some 65) (v := .int .i64 (c : Int)) #[true, true, true, false, false, false, false, false, false, false, false, false, false] (Rg.of hops (Rg.atS (Rg.atS Rg.at0))) rfl (by kernel_rfl) (fun c _ _ h => hP c _ _ _ (by rfl) h) (Or.inl ⟨Ev.wanted rfl, fun w_ => ?_⟩) rfl ?_
  · unfold execOp
    generalize a2.eval = ev at *
    go_simp
  obtain ⟨a3, qa3⟩ : ∃ z_, z_ = a2.put (some 65) (.int .i64 (c : Int)) := ⟨_, rfl⟩
  have k3 : Ev.Stay [63, 64, 65, 66, 67, 68, 69, 70, 71, 72, 73, 74] a a3 := by rw [qa3]; exact k2.put (by decide) _
  have e3_10 := Ev.oth qa3 (by decide) e2_10
  have e3_12 := Ev.oth qa3 (by decide) e2_12
  have e3_13 := Ev.oth qa3 (by decide) e2_13
  have e3_64 := Ev.oth qa3 (by decide) e2_64
  have e3_65 := Ev.sam qa3 (by rw [k2.1, hsz]; decide)
  rw [← qa3]
  clear qa3 e2_10 e2_12 e2_13 e2_64
  refine pure_ (i := 3) (N := some 66) (v := .int .i64 ((c + 1 : Nat) : Int)) #[true, true, true, true, false, false, false, false, false, false, false, false, false] (Rg.of hops (Rg.atS (Rg.atS (Rg.atS Rg.at0)))) rfl (by kernel_rfl) (fun c _ _ h => hP c _ _ _ (by rfl) h) (Or.inl ⟨Ev.wanted rfl, fun w_ => ?_⟩) rfl ?_
  · have ec0 : a3.eval (.const (.int .i64 (1))) = .int .i64 (1) := rfl
    unfold execOp
    generalize a3.eval = ev at *
    (go_simp; exact wr (by omega) (by omega))
  obtain ⟨a4, qa4⟩ : ∃ z_, z_ = a3.put (some 66) (.int .i64 ((c + 1 : Nat) : Int)) := ⟨_, rfl⟩
  have k4 : Ev.Stay [63, 64, 65, 66, 67, 68, 69, 70, 71, 72, 73, 74] a a4 := by rw [qa4]; exact k3.put (by decide) _
  have e4_10 := Ev.oth qa4 (by decide) e3_10
  have e4_12 := Ev.oth qa4 (by decide) e3_12
  have e4_13 := Ev.oth qa4 (by decide) e3_13
  have e4_64 := Ev.oth qa4 (by decide) e3_64
  have e4_65 := Ev.oth qa4 (by decide) e3_65
  have e4_66 := Ev.sam qa4 (by rw [k3.1, hsz]; decide)
  rw [← qa4]
  clear qa4 e3_10 e3_12 e3_13 e3_64 e3_65
  clear e4_65
  refine pure_ (i := 4) (N := some 67) (v := .int .i64 (r : Int)) #[true, true, true, true, true, false, false, false, false, false, false, false, false] (Rg.of hops (Rg.atS (Rg.atS (Rg.atS (Rg.atS Rg.at0))))) rfl (by kernel_rfl) (fun c _ _ h => hP c _ _ _ (by rfl) h) (Or.inl ⟨Ev.wanted rfl, fun w_ => ?_⟩) rfl ?_
  · unfold execOp
    generalize a4.eval = ev at *
    go_simp
  obtain ⟨a5, qa5⟩ : ∃ z_, z_ = a4.put (some 67) (.int .i64 (r : Int)) := ⟨_, rfl⟩
  have k5 : Ev.Stay [63, 64, 65, 66, 67, 68, 69, 70, 71, 72, 73, 74] a a5 := by rw [qa5]; exact k4.put (by decide) _
  have e5_10 := Ev.oth qa5 (by decide) e4_10
  have e5_12 := Ev.oth qa5 (by decide) e4_12
  have e5_13 := Ev.oth qa5 (by decide) e4_13
  have e5_64 := Ev.oth qa5 (by decide) e4_64
  have e5_66 := Ev.oth qa5 (by decide) e4_66
  have e5_67 := Ev.sam qa5 (by rw [k4.1, hsz]; decide)
  rw [← qa5]
  clear qa5 e4_10 e4_12 e4_13 e4_64 e4_66
  refine pure_ (i := 5) (N := some 68) (v := .int .i64 (c : Int)) #[true, true, true, true, true, true, false, false, false, false, false, false, false] (Rg.of hops (Rg.atS (Rg.atS (Rg.atS (Rg.atS (Rg.atS Rg.at0)))))) rfl (by kernel_rfl) (fun c _ _ h => hP c _ _ _ (by rfl) h) (Or.inl ⟨Ev.wanted rfl, fun w_ => ?_⟩) rfl ?_
  · unfold execOp
    generalize a5.eval = ev at *
    go_simp
  obtain ⟨a6, qa6⟩ : ∃ z_, z_ = a5.put (some 68) (.int .i64 (c : Int)) := ⟨_, rfl⟩
  have k6 : Ev.Stay [63, 64, 65, 66, 67, 68, 69, 70, 71, 72, 73, 74] a a6 := by rw [qa6]; exact k5.put (by decide) _
  have e6_10 := Ev.oth qa6 (by decide) e5_10
  have e6_12 := Ev.oth qa6 (by decide) e5_12
  have e6_13 := Ev.oth qa6 (by decide) e5_13
  have e6_64 := Ev.oth qa6 (by decide) e5_64
  have e6_66 := Ev.oth qa6 (by decide) e5_66
  have e6_67 := Ev.oth qa6 (by decide) e5_67
  have e6_68 := Ev.sam qa6 (by rw [k5.1, hsz]; decide)
  rw [← qa6]
  clear qa6 e5_10 e5_12 e5_13 e5_64 e5_66 e5_67
  refine pure_ (i := 6) (N := some 69) (v := .pointer (some ⟨B, r * 4, none⟩)) #[true, true, true, true, true, true, true, false, false, false, false, false, false] (Rg.of hops (Rg.atS (Rg.atS (Rg.atS (Rg.atS (Rg.atS (Rg.atS Rg.at0))))))) rfl (by kernel_rfl) (fun c _ _ h => hP c _ _ _ (by rfl) h) (Or.inl ⟨Ev.wanted rfl, fun w_ => ?_⟩) rfl ?_
  · have lk_ : (r : Int) < 4 := by omega
    have lk0_ : (0 : Int) ≤ (r : Int) := by omega
    unfold execOp
    generalize a6.eval = ev at *
    go_simp
  obtain ⟨a7, qa7⟩ : ∃ z_, z_ = a6.put (some 69) (.pointer (some ⟨B, r * 4, none⟩)) := ⟨_, rfl⟩
  have k7 : Ev.Stay [63, 64, 65, 66, 67, 68, 69, 70, 71, 72, 73, 74] a a7 := by rw [qa7]; exact k6.put (by decide) _
  have e7_10 := Ev.oth qa7 (by decide) e6_10
  have e7_12 := Ev.oth qa7 (by decide) e6_12
  have e7_13 := Ev.oth qa7 (by decide) e6_13
  have e7_64 := Ev.oth qa7 (by decide) e6_64
  have e7_66 := Ev.oth qa7 (by decide) e6_66
  have e7_67 := Ev.oth qa7 (by decide) e6_67
  have e7_68 := Ev.oth qa7 (by decide) e6_68
  have e7_69 := Ev.sam qa7 (by rw [k6.1, hsz]; decide)
  rw [← qa7]
  clear qa7 e6_10 e6_12 e6_13 e6_64 e6_66 e6_67 e6_68
  clear e7_67
  refine pure_ (i := 7) (N := some 70) (v := .pointer (some ⟨B, r * 4 + c, none⟩)) #[true, true, true, true, true, true, true, true, false, false, false, false, false] (Rg.of hops (Rg.atS (Rg.atS (Rg.atS (Rg.atS (Rg.atS (Rg.atS (Rg.atS Rg.at0)))))))) rfl (by kernel_rfl) (fun c _ _ h => hP c _ _ _ (by rfl) h) (Or.inl ⟨Ev.wanted rfl, fun w_ => ?_⟩) rfl ?_
  · have lk_ : (c : Int) < 4 := by omega
    have lk0_ : (0 : Int) ≤ (c : Int) := by omega
    unfold execOp
    generalize a7.eval = ev at *
    go_simp
  obtain ⟨a8, qa8⟩ : ∃ z_, z_ = a7.put (some 70) (.pointer (some ⟨B, r * 4 + c, none⟩)) := ⟨_, rfl⟩
  have k8 : Ev.Stay [63, 64, 65, 66, 67, 68, 69, 70, 71, 72, 73, 74] a a8 := by rw [qa8]; exact k7.put (by decide) _
  have e8_10 := Ev.oth qa8 (by decide) e7_10
  have e8_12 := Ev.oth qa8 (by decide) e7_12
  have e8_13 := Ev.oth qa8 (by decide) e7_13
  have e8_64 := Ev.oth qa8 (by decide) e7_64
  have e8_66 := Ev.oth qa8 (by decide) e7_66
  have e8_68 := Ev.oth qa8 (by decide) e7_68
  have e8_69 := Ev.oth qa8 (by decide) e7_69
  have e8_70 := Ev.sam qa8 (by rw [k7.1, hsz]; decide)
  rw [← qa8]
  clear qa8 e7_10 e7_12 e7_13 e7_64 e7_66 e7_68 e7_69
  clear e8_69
  clear e8_68
  refine take_ (i := 8) (N := some 71) (v := .int .i64 (G (r * 4 + c))) #[true, true, true, true, true, true, true, true, true, false, false, false, false] (Rg.of hops (Rg.atS (Rg.atS (Rg.atS (Rg.atS (Rg.atS (Rg.atS (Rg.atS (Rg.atS Rg.at0))))))))) rfl (by kernel_rfl) (fun c _ _ h => hP c _ _ _ (by rfl) h) (Ev.loadW (Ev.wanted rfl) rfl e8_70 (fun w hw => Ev.load3 (arr_cell hw (by omega)))) hHeld rfl ?_
  obtain ⟨a9, qa9⟩ : ∃ z_, z_ = a8.put (some 71) (.int .i64 (G (r * 4 + c))) := ⟨_, rfl⟩
  have k9 : Ev.Stay [63, 64, 65, 66, 67, 68, 69, 70, 71, 72, 73, 74] a a9 := by rw [qa9]; exact k8.put (by decide) _
  have e9_10 := Ev.oth qa9 (by decide) e8_10
  have e9_12 := Ev.oth qa9 (by decide) e8_12
  have e9_13 := Ev.oth qa9 (by decide) e8_13
  have e9_64 := Ev.oth qa9 (by decide) e8_64
  have e9_66 := Ev.oth qa9 (by decide) e8_66
  have e9_70 := Ev.oth qa9 (by decide) e8_70
  have e9_71 := Ev.sam qa9 (by rw [k8.1, hsz]; decide)
  rw [← qa9]
  clear qa9 e8_10 e8_12 e8_13 e8_64 e8_66 e8_70
  clear e9_70
  refine pure_ (i := 9) (N := some 72) (v := .int .i64 (G (r * 4 + c) + 1)) #[true, true, true, true, true, true, true, true, true, true, false, false, false] (Rg.of hops (Rg.atS (Rg.atS (Rg.atS (Rg.atS (Rg.atS (Rg.atS (Rg.atS (Rg.atS (Rg.atS Rg.at0)))))))))) rfl (by kernel_rfl) (fun c _ _ h => hP c _ _ _ (by rfl) h) (Or.inl ⟨Ev.wanted rfl, fun w_ => ?_⟩) rfl ?_
  · have ec0 : a9.eval (.const (.int .i64 (1))) = .int .i64 (1) := rfl
    have g1 := hg.1
    have g2 := hg.2
    unfold execOp
    generalize a9.eval = ev at *
    (go_simp; exact wr (by omega) (by omega))
  obtain ⟨a10, qa10⟩ : ∃ z_, z_ = a9.put (some 72) (.int .i64 (G (r * 4 + c) + 1)) := ⟨_, rfl⟩
  have k10 : Ev.Stay [63, 64, 65, 66, 67, 68, 69, 70, 71, 72, 73, 74] a a10 := by rw [qa10]; exact k9.put (by decide) _
  have e10_10 := Ev.oth qa10 (by decide) e9_10
  have e10_12 := Ev.oth qa10 (by decide) e9_12
  have e10_13 := Ev.oth qa10 (by decide) e9_13
  have e10_64 := Ev.oth qa10 (by decide) e9_64
  have e10_66 := Ev.oth qa10 (by decide) e9_66
  have e10_71 := Ev.oth qa10 (by decide) e9_71
  have e10_72 := Ev.sam qa10 (by rw [k9.1, hsz]; decide)
  rw [← qa10]
  clear qa10 e9_10 e9_12 e9_13 e9_64 e9_66 e9_71
  clear e10_71
  refine pure_ (i := 10) (N := some 73) (v := .pointer (some ⟨B, (r + 1) * 4, none⟩)) #[true, true, true, true, true, true, true, true, true, true, true, false, false] (Rg.of hops (Rg.atS (Rg.atS (Rg.atS (Rg.atS (Rg.atS (Rg.atS (Rg.atS (Rg.atS (Rg.atS (Rg.atS Rg.at0))))))))))) rfl (by kernel_rfl) (fun c _ _ h => hP c _ _ _ (by rfl) h) (Or.inl ⟨Ev.wanted rfl, fun w_ => ?_⟩) rfl ?_
  · have lk_ : (r + 1 : Int) < 4 := by omega
    have lk0_ : (0 : Int) ≤ (r + 1 : Int) := by omega
    unfold execOp
    generalize a10.eval = ev at *
    go_simp
  obtain ⟨a11, qa11⟩ : ∃ z_, z_ = a10.put (some 73) (.pointer (some ⟨B, (r + 1) * 4, none⟩)) := ⟨_, rfl⟩
  have k11 : Ev.Stay [63, 64, 65, 66, 67, 68, 69, 70, 71, 72, 73, 74] a a11 := by rw [qa11]; exact k10.put (by decide) _
  have e11_10 := Ev.oth qa11 (by decide) e10_10
  have e11_12 := Ev.oth qa11 (by decide) e10_12
  have e11_13 := Ev.oth qa11 (by decide) e10_13
  have e11_64 := Ev.oth qa11 (by decide) e10_64
  have e11_66 := Ev.oth qa11 (by decide) e10_66
  have e11_72 := Ev.oth qa11 (by decide) e10_72
  have e11_73 := Ev.sam qa11 (by rw [k10.1, hsz]; decide)
  rw [← qa11]
  clear qa11 e10_10 e10_12 e10_13 e10_64 e10_66 e10_72
  clear e11_64
  refine pure_ (i := 11) (N := some 74) (v := .pointer (some ⟨B, (r + 1) * 4 + (c + 1), none⟩)) #[true, true, true, true, true, true, true, true, true, true, true, true, false] (Rg.of hops (Rg.atS (Rg.atS (Rg.atS (Rg.atS (Rg.atS (Rg.atS (Rg.atS (Rg.atS (Rg.atS (Rg.atS (Rg.atS Rg.at0)))))))))))) rfl (by kernel_rfl) (fun c _ _ h => hP c _ _ _ (by rfl) h) (Or.inl ⟨Ev.wanted rfl, fun w_ => ?_⟩) rfl ?_
  · have lk_ : (c + 1 : Int) < 4 := by omega
    have lk0_ : (0 : Int) ≤ (c + 1 : Int) := by omega
    unfold execOp
    generalize a11.eval = ev at *
    go_simp
  obtain ⟨a12, qa12⟩ : ∃ z_, z_ = a11.put (some 74) (.pointer (some ⟨B, (r + 1) * 4 + (c + 1), none⟩)) := ⟨_, rfl⟩
  have k12 : Ev.Stay [63, 64, 65, 66, 67, 68, 69, 70, 71, 72, 73, 74] a a12 := by rw [qa12]; exact k11.put (by decide) _
  have e12_10 := Ev.oth qa12 (by decide) e11_10
  have e12_12 := Ev.oth qa12 (by decide) e11_12
  have e12_13 := Ev.oth qa12 (by decide) e11_13
  have e12_66 := Ev.oth qa12 (by decide) e11_66
  have e12_72 := Ev.oth qa12 (by decide) e11_72
  have e12_73 := Ev.oth qa12 (by decide) e11_73
  have e12_74 := Ev.sam qa12 (by rw [k11.1, hsz]; decide)
  rw [← qa12]
  clear qa12 e11_10 e11_12 e11_13 e11_66 e11_72 e11_73
  clear e12_73
  clear e12_66
  refine last_ (i := 12) (N := none) #[true, true, true, true, true, true, true, true, true, true, true, true, true] (Rg.of hops (Rg.atS (Rg.atS (Rg.atS (Rg.atS (Rg.atS (Rg.atS (Rg.atS (Rg.atS (Rg.atS (Rg.atS (Rg.atS (Rg.atS Rg.at0))))))))))))) rfl (by kernel_rfl) (by decide) (fun K hK => ?_)
  rw [if_pos (Ev.wanted rfl)]
  refine Ev.store rfl rfl e12_74 e12_72 (Ev.store3 (arr_cell hHeld (by omega)) (arr_frozen hHeld)) ?_
  refine hK.out _ _ ?_
  refine done_ (by kernel_rfl) ?_
  exact hQ _ k12
set_option maxHeartbeats 2000000 in
theorem Rg.s16 {id : Nat} {Q : Exit → Act → World → Prop} {a : Act} {W : World} {B r c : Nat} {G : Nat → Int}
    (hsz : a.tmps.size = 137) (hP : ∀ c a a' w, a'.defers = a.defers → Q (.panic c) a w → Q (.panic c) a' w)  (h10 : a.eval (.tmp 10) = .pointer (some ⟨B, 0, none⟩)) (h12 : a.eval (.tmp 12) = .int .i64 (r : Int)) (h13 : a.eval (.tmp 13) = .int .i64 (c : Int)) (hG : W.drew.heap[B]? = some (.cells (arr G) 81 (0, 0))) (hr : r < 3) (hc : c < 3)
    (hQ : ∀ a', Ev.Stay [75, 76, 77, 78, 79, 80, 81, 82, 83, 84, 85, 86, 87, 88, 89, 90, 91, 92, 93] a a' → Q .normal a' (W.drew.setCell ⟨B, (r + 1) * 4 + (c + 1), none⟩ (.int .i64 (if G (r * 4 + (c + 1)) < G ((r + 1) * 4 + c) then G ((r + 1) * 4 + c) else G (r * 4 + (c + 1)))))) : (Code.region id (Rg.ops 33 16) true).wp Try.prog Q a W := by
  have hops : Rg.ops 33 16 = List.toArray [_, _, _, _, _, _, _, _, _, _, _, _, _, _, _, _, _, _, _, _] := rfl
  refine start_ (S := fun w_ => w_.heap[B]? = some (.cells (arr G) 81 (0, 0))) (ds := [19]) #[false, false, false, false, false, false, false, false, false, false, false, false, false, false, false, false, false, false, false, false] (by kernel_rfl) (n := 20) rfl rfl ?S0 (fun hHeld => ?_)
  case S0 => exact hG
  have k0 : Ev.Stay [75, 76, 77, 78, 79, 80, 81, 82, 83, 84, 85, 86, 87, 88, 89, 90, 91, 92, 93] a a := Ev.Stay.refl [75, 76, 77, 78, 79, 80, 81, 82, 83, 84, 85, 86, 87, 88, 89, 90, 91, 92, 93] a
  refine pure_ (i := 0) (N := some 75) (v := .int .i64 (r : Int)) #[true, false, false, false, false, false, false, false, false, false, false, false, false, false, false, false, false, false, false, false] (Rg.of hops Rg.at0) rfl (by kernel_rfl) (fun c _ _ h => hP c _ _ _ (by rfl) h) (Or.inl ⟨Ev.wanted rfl, fun w_ => ?_⟩) rfl ?_
  · unfold execOp
    generalize a.eval = ev at *
    go_simp
  obtain ⟨a1, qa1⟩ : ∃ z_, z_ = a.put (some 75) (.int .i64 (r : Int)) := ⟨_, rfl⟩
  have k1 : Ev.Stay [75, 76, 77, 78, 79, 80, 81, 82, 83, 84, 85, 86, 87, 88, 89, 90, 91, 92, 93] a a1 := by rw [qa1]; exact k0.put (by decide) _
  have e1_10 := Ev.oth qa1 (by decide) h10
  have e1_12 := Ev.oth qa1 (by decide) h12
  have e1_13 := Ev.oth qa1 (by decide) h13
  have e1_75 := Ev.sam qa1 (by rw [k0.1, hsz]; decide)
  rw [← qa1]
  clear qa1 
  refine pure_ (i := 1) (N := some 76) (v := .int .i64 ((r + 1 : Nat) : Int)) #[true, true, false, false, false, false, false, false, false, false, false, false, false, false, false, false, false, false, false, false] (Rg.of hops (Rg.atS Rg.at0)) rfl (by kernel_rfl) (fun c _ _ h => hP c _ _ _ (by rfl) h) (Or.inl ⟨Ev.wanted rfl, fun w_ => ?_⟩) rfl ?_
  · have ec0 : a1.eval (.const (.int .i64 (1))) = .int .i64 (1) := rfl
    unfold execOp
    generalize a1.eval = ev at *
    (go_simp; exact wr (by omega) (by omega))
  obtain ⟨a2, qa2⟩ : ∃ z_, z_ = a1.put (some 76) (.int .i64 ((r + 1 : Nat) : Int)) := ⟨_, rfl⟩
  have k2 : Ev.Stay [75, 76, 77, 78, 79, 80, 81, 82, 83, 84, 85, 86, 87, 88, 89, 90, 91, 92, 93] a a2 := by rw [qa2]; exact k1.put (by decide) _
  have e2_10 := Ev.oth qa2 (by decide) e1_10
  have e2_12 := Ev.oth qa2 (by decide) e1_12
  have e2_13 := Ev.oth qa2 (by decide) e1_13
  have e2_75 := Ev.oth qa2 (by decide) e1_75
  have e2_76 := Ev.sam qa2 (by rw [k1.1, hsz]; decide)
  rw [← qa2]
  clear qa2 e1_10 e1_12 e1_13 e1_75
  clear e2_75
  refine pure_ (i := 2) (N := some 77) (v := .int .i64 (c : Int)) #[true, true, true, false, false, false, false, false, false, false, false, false, false, false, false, false, false, false, false, false] (Rg.of hops (Rg.atS (Rg.atS Rg.at0))) rfl (by kernel_rfl) (fun c _ _ h => hP c _ _ _ (by rfl) h) (Or.inl ⟨Ev.wanted rfl, fun w_ => ?_⟩) rfl ?_
  · unfold execOp
    generalize a2.eval = ev at *
    go_simp
  obtain ⟨a3, qa3⟩ : ∃ z_, z_ = a2.put (some 77) (.int .i64 (c : Int)) := ⟨_, rfl⟩
  have k3 : Ev.Stay [75, 76, 77, 78, 79, 80, 81, 82, 83, 84, 85, 86, 87, 88, 89, 90, 91, 92, 93] a a3 := by rw [qa3]; exact k2.put (by decide) _
  have e3_10 := Ev.oth qa3 (by decide) e2_10
  have e3_12 := Ev.oth qa3 (by decide) e2_12
  have e3_13 := Ev.oth qa3 (by decide) e2_13
  have e3_76 := Ev.oth qa3 (by decide) e2_76
  have e3_77 := Ev.sam qa3 (by rw [k2.1, hsz]; decide)
  rw [← qa3]
  clear qa3 e2_10 e2_12 e2_13 e2_76
  refine pure_ (i := 3) (N := some 78) (v := .int .i64 ((c + 1 : Nat) : Int)) #[true, true, true, true, false, false, false, false, false, false, false, false, false, false, false, false, false, false, false, false] (Rg.of hops (Rg.atS (Rg.atS (Rg.atS Rg.at0)))) rfl (by kernel_rfl) (fun c _ _ h => hP c _ _ _ (by rfl) h) (Or.inl ⟨Ev.wanted rfl, fun w_ => ?_⟩) rfl ?_
  · have ec0 : a3.eval (.const (.int .i64 (1))) = .int .i64 (1) := rfl
    unfold execOp
    generalize a3.eval = ev at *
    (go_simp; exact wr (by omega) (by omega))
  obtain ⟨a4, qa4⟩ : ∃ z_, z_ = a3.put (some 78) (.int .i64 ((c + 1 : Nat) : Int)) := ⟨_, rfl⟩
  have k4 : Ev.Stay [75, 76, 77, 78, 79, 80, 81, 82, 83, 84, 85, 86, 87, 88, 89, 90, 91, 92, 93] a a4 := by rw [qa4]; exact k3.put (by decide) _
  have e4_10 := Ev.oth qa4 (by decide) e3_10
  have e4_12 := Ev.oth qa4 (by decide) e3_12
  have e4_13 := Ev.oth qa4 (by decide) e3_13
  have e4_76 := Ev.oth qa4 (by decide) e3_76
  have e4_77 := Ev.oth qa4 (by decide) e3_77
  have e4_78 := Ev.sam qa4 (by rw [k3.1, hsz]; decide)
  rw [← qa4]
  clear qa4 e3_10 e3_12 e3_13 e3_76 e3_77
  clear e4_77
  refine pure_ (i := 4) (N := some 79) (v := .int .i64 (r : Int)) #[true, true, true, true, true, false, false, false, false, false, false, false, false, false, false, false, false, false, false, false] (Rg.of hops (Rg.atS (Rg.atS (Rg.atS (Rg.atS Rg.at0))))) rfl (by kernel_rfl) (fun c _ _ h => hP c _ _ _ (by rfl) h) (Or.inl ⟨Ev.wanted rfl, fun w_ => ?_⟩) rfl ?_
  · unfold execOp
    generalize a4.eval = ev at *
    go_simp
  obtain ⟨a5, qa5⟩ : ∃ z_, z_ = a4.put (some 79) (.int .i64 (r : Int)) := ⟨_, rfl⟩
  have k5 : Ev.Stay [75, 76, 77, 78, 79, 80, 81, 82, 83, 84, 85, 86, 87, 88, 89, 90, 91, 92, 93] a a5 := by rw [qa5]; exact k4.put (by decide) _
  have e5_10 := Ev.oth qa5 (by decide) e4_10
  have e5_12 := Ev.oth qa5 (by decide) e4_12
  have e5_13 := Ev.oth qa5 (by decide) e4_13
  have e5_76 := Ev.oth qa5 (by decide) e4_76
  have e5_78 := Ev.oth qa5 (by decide) e4_78
  have e5_79 := Ev.sam qa5 (by rw [k4.1, hsz]; decide)
  rw [← qa5]
  clear qa5 e4_10 e4_12 e4_13 e4_76 e4_78
  refine pure_ (i := 5) (N := some 80) (v := .int .i64 (c : Int)) #[true, true, true, true, true, true, false, false, false, false, false, false, false, false, false, false, false, false, false, false] (Rg.of hops (Rg.atS (Rg.atS (Rg.atS (Rg.atS (Rg.atS Rg.at0)))))) rfl (by kernel_rfl) (fun c _ _ h => hP c _ _ _ (by rfl) h) (Or.inl ⟨Ev.wanted rfl, fun w_ => ?_⟩) rfl ?_
  · unfold execOp
    generalize a5.eval = ev at *
    go_simp
  obtain ⟨a6, qa6⟩ : ∃ z_, z_ = a5.put (some 80) (.int .i64 (c : Int)) := ⟨_, rfl⟩
  have k6 : Ev.Stay [75, 76, 77, 78, 79, 80, 81, 82, 83, 84, 85, 86, 87, 88, 89, 90, 91, 92, 93] a a6 := by rw [qa6]; exact k5.put (by decide) _
  have e6_10 := Ev.oth qa6 (by decide) e5_10
  have e6_12 := Ev.oth qa6 (by decide) e5_12
  have e6_13 := Ev.oth qa6 (by decide) e5_13
  have e6_76 := Ev.oth qa6 (by decide) e5_76
  have e6_78 := Ev.oth qa6 (by decide) e5_78
  have e6_79 := Ev.oth qa6 (by decide) e5_79
  have e6_80 := Ev.sam qa6 (by rw [k5.1, hsz]; decide)
  rw [← qa6]
  clear qa6 e5_10 e5_12 e5_13 e5_76 e5_78 e5_79
  refine pure_ (i := 6) (N := some 81) (v := .int .i64 ((c + 1 : Nat) : Int)) #[true, true, true, true, true, true, true, false, false, false, false, false, false, false, false, false, false, false, false, false] (Rg.of hops (Rg.atS (Rg.atS (Rg.atS (Rg.atS (Rg.atS (Rg.atS Rg.at0))))))) rfl (by kernel_rfl) (fun c _ _ h => hP c _ _ _ (by rfl) h) (Or.inl ⟨Ev.wanted rfl, fun w_ => ?_⟩) rfl ?_
  · have ec0 : a6.eval (.const (.int .i64 (1))) = .int .i64 (1) := rfl
    unfold execOp
    generalize a6.eval = ev at *
    (go_simp; exact wr (by omega) (by omega))
  obtain ⟨a7, qa7⟩ : ∃ z_, z_ = a6.put (some 81) (.int .i64 ((c + 1 : Nat) : Int)) := ⟨_, rfl⟩
  have k7 : Ev.Stay [75, 76, 77, 78, 79, 80, 81, 82, 83, 84, 85, 86, 87, 88, 89, 90, 91, 92, 93] a a7 := by rw [qa7]; exact k6.put (by decide) _
  have e7_10 := Ev.oth qa7 (by decide) e6_10
  have e7_12 := Ev.oth qa7 (by decide) e6_12
  have e7_13 := Ev.oth qa7 (by decide) e6_13
  have e7_76 := Ev.oth qa7 (by decide) e6_76
  have e7_78 := Ev.oth qa7 (by decide) e6_78
  have e7_79 := Ev.oth qa7 (by decide) e6_79
  have e7_80 := Ev.oth qa7 (by decide) e6_80
  have e7_81 := Ev.sam qa7 (by rw [k6.1, hsz]; decide)
  rw [← qa7]
  clear qa7 e6_10 e6_12 e6_13 e6_76 e6_78 e6_79 e6_80
  clear e7_80
  refine pure_ (i := 7) (N := some 82) (v := .pointer (some ⟨B, r * 4, none⟩)) #[true, true, true, true, true, true, true, true, false, false, false, false, false, false, false, false, false, false, false, false] (Rg.of hops (Rg.atS (Rg.atS (Rg.atS (Rg.atS (Rg.atS (Rg.atS (Rg.atS Rg.at0)))))))) rfl (by kernel_rfl) (fun c _ _ h => hP c _ _ _ (by rfl) h) (Or.inl ⟨Ev.wanted rfl, fun w_ => ?_⟩) rfl ?_
  · have lk_ : (r : Int) < 4 := by omega
    have lk0_ : (0 : Int) ≤ (r : Int) := by omega
    unfold execOp
    generalize a7.eval = ev at *
    go_simp
  obtain ⟨a8, qa8⟩ : ∃ z_, z_ = a7.put (some 82) (.pointer (some ⟨B, r * 4, none⟩)) := ⟨_, rfl⟩
  have k8 : Ev.Stay [75, 76, 77, 78, 79, 80, 81, 82, 83, 84, 85, 86, 87, 88, 89, 90, 91, 92, 93] a a8 := by rw [qa8]; exact k7.put (by decide) _
  have e8_10 := Ev.oth qa8 (by decide) e7_10
  have e8_12 := Ev.oth qa8 (by decide) e7_12
  have e8_13 := Ev.oth qa8 (by decide) e7_13
  have e8_76 := Ev.oth qa8 (by decide) e7_76
  have e8_78 := Ev.oth qa8 (by decide) e7_78
  have e8_79 := Ev.oth qa8 (by decide) e7_79
  have e8_81 := Ev.oth qa8 (by decide) e7_81
  have e8_82 := Ev.sam qa8 (by rw [k7.1, hsz]; decide)
  rw [← qa8]
  clear qa8 e7_10 e7_12 e7_13 e7_76 e7_78 e7_79 e7_81
  clear e8_79
  refine pure_ (i := 8) (N := some 83) (v := .pointer (some ⟨B, r * 4 + (c + 1), none⟩)) #[true, true, true, true, true, true, true, true, true, false, false, false, false, false, false, false, false, false, false, false] (Rg.of hops (Rg.atS (Rg.atS (Rg.atS (Rg.atS (Rg.atS (Rg.atS (Rg.atS (Rg.atS Rg.at0))))))))) rfl (by kernel_rfl) (fun c _ _ h => hP c _ _ _ (by rfl) h) (Or.inl ⟨Ev.wanted rfl, fun w_ => ?_⟩) rfl ?_
  · have lk_ : (c + 1 : Int) < 4 := by omega
    have lk0_ : (0 : Int) ≤ (c + 1 : Int) := by omega
    unfold execOp
    generalize a8.eval = ev at *
    go_simp
  obtain ⟨a9, qa9⟩ : ∃ z_, z_ = a8.put (some 83) (.pointer (some ⟨B, r * 4 + (c + 1), none⟩)) := ⟨_, rfl⟩
  have k9 : Ev.Stay [75, 76, 77, 78, 79, 80, 81, 82, 83, 84, 85, 86, 87, 88, 89, 90, 91, 92, 93] a a9 := by rw [qa9]; exact k8.put (by decide) _
  have e9_10 := Ev.oth qa9 (by decide) e8_10
  have e9_12 := Ev.oth qa9 (by decide) e8_12
  have e9_13 := Ev.oth qa9 (by decide) e8_13
  have e9_76 := Ev.oth qa9 (by decide) e8_76
  have e9_78 := Ev.oth qa9 (by decide) e8_78
  have e9_81 := Ev.oth qa9 (by decide) e8_81
  have e9_82 := Ev.oth qa9 (by decide) e8_82
  have e9_83 := Ev.sam qa9 (by rw [k8.1, hsz]; decide)
  rw [← qa9]
  clear qa9 e8_10 e8_12 e8_13 e8_76 e8_78 e8_81 e8_82
  clear e9_82
  clear e9_81
  refine take_ (i := 9) (N := some 84) (v := .int .i64 (G (r * 4 + (c + 1)))) #[true, true, true, true, true, true, true, true, true, true, false, false, false, false, false, false, false, false, false, false] (Rg.of hops (Rg.atS (Rg.atS (Rg.atS (Rg.atS (Rg.atS (Rg.atS (Rg.atS (Rg.atS (Rg.atS Rg.at0)))))))))) rfl (by kernel_rfl) (fun c _ _ h => hP c _ _ _ (by rfl) h) (Ev.loadW (Ev.wanted rfl) rfl e9_83 (fun w hw => Ev.load3 (arr_cell hw (by omega)))) hHeld rfl ?_
  obtain ⟨a10, qa10⟩ : ∃ z_, z_ = a9.put (some 84) (.int .i64 (G (r * 4 + (c + 1)))) := ⟨_, rfl⟩
  have k10 : Ev.Stay [75, 76, 77, 78, 79, 80, 81, 82, 83, 84, 85, 86, 87, 88, 89, 90, 91, 92, 93] a a10 := by rw [qa10]; exact k9.put (by decide) _
  have e10_10 := Ev.oth qa10 (by decide) e9_10
  have e10_12 := Ev.oth qa10 (by decide) e9_12
  have e10_13 := Ev.oth qa10 (by decide) e9_13
  have e10_76 := Ev.oth qa10 (by decide) e9_76
  have e10_78 := Ev.oth qa10 (by decide) e9_78
  have e10_83 := Ev.oth qa10 (by decide) e9_83
  have e10_84 := Ev.sam qa10 (by rw [k9.1, hsz]; decide)
  rw [← qa10]
  clear qa10 e9_10 e9_12 e9_13 e9_76 e9_78 e9_83
  clear e10_83
  refine pure_ (i := 10) (N := some 85) (v := .int .i64 (r : Int)) #[true, true, true, true, true, true, true, true, true, true, true, false, false, false, false, false, false, false, false, false] (Rg.of hops (Rg.atS (Rg.atS (Rg.atS (Rg.atS (Rg.atS (Rg.atS (Rg.atS (Rg.atS (Rg.atS (Rg.atS Rg.at0))))))))))) rfl (by kernel_rfl) (fun c _ _ h => hP c _ _ _ (by rfl) h) (Or.inl ⟨Ev.wanted rfl, fun w_ => ?_⟩) rfl ?_
  · unfold execOp
    generalize a10.eval = ev at *
    go_simp
  obtain ⟨a11, qa11⟩ : ∃ z_, z_ = a10.put (some 85) (.int .i64 (r : Int)) := ⟨_, rfl⟩
  have k11 : Ev.Stay [75, 76, 77, 78, 79, 80, 81, 82, 83, 84, 85, 86, 87, 88, 89, 90, 91, 92, 93] a a11 := by rw [qa11]; exact k10.put (by decide) _
  have e11_10 := Ev.oth qa11 (by decide) e10_10
  have e11_12 := Ev.oth qa11 (by decide) e10_12
  have e11_13 := Ev.oth qa11 (by decide) e10_13
  have e11_76 := Ev.oth qa11 (by decide) e10_76
  have e11_78 := Ev.oth qa11 (by decide) e10_78
  have e11_84 := Ev.oth qa11 (by decide) e10_84
  have e11_85 := Ev.sam qa11 (by rw [k10.1, hsz]; decide)
  rw [← qa11]
  clear qa11 e10_10 e10_12 e10_13 e10_76 e10_78 e10_84
  refine pure_ (i := 11) (N := some 86) (v := .int .i64 ((r + 1 : Nat) : Int)) #[true, true, true, true, true, true, true, true, true, true, true, true, false, false, false, false, false, false, false, false] (Rg.of hops (Rg.atS (Rg.atS (Rg.atS (Rg.atS (Rg.atS (Rg.atS (Rg.atS (Rg.atS (Rg.atS (Rg.atS (Rg.atS Rg.at0)))))))))))) rfl (by kernel_rfl) (fun c _ _ h => hP c _ _ _ (by rfl) h) (Or.inl ⟨Ev.wanted rfl, fun w_ => ?_⟩) rfl ?_
  · have ec0 : a11.eval (.const (.int .i64 (1))) = .int .i64 (1) := rfl
    unfold execOp
    generalize a11.eval = ev at *
    (go_simp; exact wr (by omega) (by omega))
  obtain ⟨a12, qa12⟩ : ∃ z_, z_ = a11.put (some 86) (.int .i64 ((r + 1 : Nat) : Int)) := ⟨_, rfl⟩
  have k12 : Ev.Stay [75, 76, 77, 78, 79, 80, 81, 82, 83, 84, 85, 86, 87, 88, 89, 90, 91, 92, 93] a a12 := by rw [qa12]; exact k11.put (by decide) _
  have e12_10 := Ev.oth qa12 (by decide) e11_10
  have e12_12 := Ev.oth qa12 (by decide) e11_12
  have e12_13 := Ev.oth qa12 (by decide) e11_13
  have e12_76 := Ev.oth qa12 (by decide) e11_76
  have e12_78 := Ev.oth qa12 (by decide) e11_78
  have e12_84 := Ev.oth qa12 (by decide) e11_84
  have e12_85 := Ev.oth qa12 (by decide) e11_85
  have e12_86 := Ev.sam qa12 (by rw [k11.1, hsz]; decide)
  rw [← qa12]
  clear qa12 e11_10 e11_12 e11_13 e11_76 e11_78 e11_84 e11_85
  clear e12_85
  refine pure_ (i := 12) (N := some 87) (v := .int .i64 (c : Int)) #[true, true, true, true, true, true, true, true, true, true, true, true, true, false, false, false, false, false, false, false] (Rg.of hops (Rg.atS (Rg.atS (Rg.atS (Rg.atS (Rg.atS (Rg.atS (Rg.atS (Rg.atS (Rg.atS (Rg.atS (Rg.atS (Rg.atS Rg.at0))))))))))))) rfl (by kernel_rfl) (fun c _ _ h => hP c _ _ _ (by rfl) h) (Or.inl ⟨Ev.wanted rfl, fun w_ => ?_⟩) rfl ?_
  · unfold execOp
    generalize a12.eval = ev at *
    go_simp
  obtain ⟨a13, qa13⟩ : ∃ z_, z_ = a12.put (some 87) (.int .i64 (c : Int)) := ⟨_, rfl⟩
  have k13 : Ev.Stay [75, 76, 77, 78, 79, 80, 81, 82, 83, 84, 85, 86, 87, 88, 89, 90, 91, 92, 93] a a13 := by rw [qa13]; exact k12.put (by decide) _
  have e13_10 := Ev.oth qa13 (by decide) e12_10
  have e13_12 := Ev.oth qa13 (by decide) e12_12
  have e13_13 := Ev.oth qa13 (by decide) e12_13
  have e13_76 := Ev.oth qa13 (by decide) e12_76
  have e13_78 := Ev.oth qa13 (by decide) e12_78
  have e13_84 := Ev.oth qa13 (by decide) e12_84
  have e13_86 := Ev.oth qa13 (by decide) e12_86
  have e13_87 := Ev.sam qa13 (by rw [k12.1, hsz]; decide)
  rw [← qa13]
  clear qa13 e12_10 e12_12 e12_13 e12_76 e12_78 e12_84 e12_86
  refine pure_ (i := 13) (N := some 88) (v := .pointer (some ⟨B, (r + 1) * 4, none⟩)) #[true, true, true, true, true, true, true, true, true, true, true, true, true, true, false, false, false, false, false, false] (Rg.of hops (Rg.atS (Rg.atS (Rg.atS (Rg.atS (Rg.atS (Rg.atS (Rg.atS (Rg.atS (Rg.atS (Rg.atS (Rg.atS (Rg.atS (Rg.atS Rg.at0)))))))))))))) rfl (by kernel_rfl) (fun c _ _ h => hP c _ _ _ (by rfl) h) (Or.inl ⟨Ev.wanted rfl, fun w_ => ?_⟩) rfl ?_
  · have lk_ : (r + 1 : Int) < 4 := by omega
    have lk0_ : (0 : Int) ≤ (r + 1 : Int) := by omega
    unfold execOp
    generalize a13.eval = ev at *
    go_simp
  obtain ⟨a14, qa14⟩ : ∃ z_, z_ = a13.put (some 88) (.pointer (some ⟨B, (r + 1) * 4, none⟩)) := ⟨_, rfl⟩
  have k14 : Ev.Stay [75, 76, 77, 78, 79, 80, 81, 82, 83, 84, 85, 86, 87, 88, 89, 90, 91, 92, 93] a a14 := by rw [qa14]; exact k13.put (by decide) _
  have e14_10 := Ev.oth qa14 (by decide) e13_10
  have e14_12 := Ev.oth qa14 (by decide) e13_12
  have e14_13 := Ev.oth qa14 (by decide) e13_13
  have e14_76 := Ev.oth qa14 (by decide) e13_76
  have e14_78 := Ev.oth qa14 (by decide) e13_78
  have e14_84 := Ev.oth qa14 (by decide) e13_84
  have e14_86 := Ev.oth qa14 (by decide) e13_86
  have e14_87 := Ev.oth qa14 (by decide) e13_87
  have e14_88 := Ev.sam qa14 (by rw [k13.1, hsz]; decide)
  rw [← qa14]
  clear qa14 e13_10 e13_12 e13_13 e13_76 e13_78 e13_84 e13_86 e13_87
  clear e14_86
  refine pure_ (i := 14) (N := some 89) (v := .pointer (some ⟨B, (r + 1) * 4 + c, none⟩)) #[true, true, true, true, true, true, true, true, true, true, true, true, true, true, true, false, false, false, false, false] (Rg.of hops (Rg.atS (Rg.atS (Rg.atS (Rg.atS (Rg.atS (Rg.atS (Rg.atS (Rg.atS (Rg.atS (Rg.atS (Rg.atS (Rg.atS (Rg.atS (Rg.atS Rg.at0))))))))))))))) rfl (by kernel_rfl) (fun c _ _ h => hP c _ _ _ (by rfl) h) (Or.inl ⟨Ev.wanted rfl, fun w_ => ?_⟩) rfl ?_
  · have lk_ : (c : Int) < 4 := by omega
    have lk0_ : (0 : Int) ≤ (c : Int) := by omega
    unfold execOp
    generalize a14.eval = ev at *
    go_simp
  obtain ⟨a15, qa15⟩ : ∃ z_, z_ = a14.put (some 89) (.pointer (some ⟨B, (r + 1) * 4 + c, none⟩)) := ⟨_, rfl⟩
  have k15 : Ev.Stay [75, 76, 77, 78, 79, 80, 81, 82, 83, 84, 85, 86, 87, 88, 89, 90, 91, 92, 93] a a15 := by rw [qa15]; exact k14.put (by decide) _
  have e15_10 := Ev.oth qa15 (by decide) e14_10
  have e15_12 := Ev.oth qa15 (by decide) e14_12
  have e15_13 := Ev.oth qa15 (by decide) e14_13
  have e15_76 := Ev.oth qa15 (by decide) e14_76
  have e15_78 := Ev.oth qa15 (by decide) e14_78
  have e15_84 := Ev.oth qa15 (by decide) e14_84
  have e15_87 := Ev.oth qa15 (by decide) e14_87
  have e15_88 := Ev.oth qa15 (by decide) e14_88
  have e15_89 := Ev.sam qa15 (by rw [k14.1, hsz]; decide)
  rw [← qa15]
  clear qa15 e14_10 e14_12 e14_13 e14_76 e14_78 e14_84 e14_87 e14_88
  clear e15_88
  clear e15_87
  refine take_ (i := 15) (N := some 90) (v := .int .i64 (G ((r + 1) * 4 + c))) #[true, true, true, true, true, true, true, true, true, true, true, true, true, true, true, true, false, false, false, false] (Rg.of hops (Rg.atS (Rg.atS (Rg.atS (Rg.atS (Rg.atS (Rg.atS (Rg.atS (Rg.atS (Rg.atS (Rg.atS (Rg.atS (Rg.atS (Rg.atS (Rg.atS (Rg.atS Rg.at0)))))))))))))))) rfl (by kernel_rfl) (fun c _ _ h => hP c _ _ _ (by rfl) h) (Ev.loadW (Ev.wanted rfl) rfl e15_89 (fun w hw => Ev.load3 (arr_cell hw (by omega)))) hHeld rfl ?_
  obtain ⟨a16, qa16⟩ : ∃ z_, z_ = a15.put (some 90) (.int .i64 (G ((r + 1) * 4 + c))) := ⟨_, rfl⟩
  have k16 : Ev.Stay [75, 76, 77, 78, 79, 80, 81, 82, 83, 84, 85, 86, 87, 88, 89, 90, 91, 92, 93] a a16 := by rw [qa16]; exact k15.put (by decide) _
  have e16_10 := Ev.oth qa16 (by decide) e15_10
  have e16_12 := Ev.oth qa16 (by decide) e15_12
  have e16_13 := Ev.oth qa16 (by decide) e15_13
  have e16_76 := Ev.oth qa16 (by decide) e15_76
  have e16_78 := Ev.oth qa16 (by decide) e15_78
  have e16_84 := Ev.oth qa16 (by decide) e15_84
  have e16_89 := Ev.oth qa16 (by decide) e15_89
  have e16_90 := Ev.sam qa16 (by rw [k15.1, hsz]; decide)
  rw [← qa16]
  clear qa16 e15_10 e15_12 e15_13 e15_76 e15_78 e15_84 e15_89
  clear e16_89
  refine pure_ (i := 16) (N := some 91) (v := .int .i64 (if G (r * 4 + (c + 1)) < G ((r + 1) * 4 + c) then G ((r + 1) * 4 + c) else G (r * 4 + (c + 1)))) #[true, true, true, true, true, true, true, true, true, true, true, true, true, true, true, true, true, false, false, false] (Rg.of hops (Rg.atS (Rg.atS (Rg.atS (Rg.atS (Rg.atS (Rg.atS (Rg.atS (Rg.atS (Rg.atS (Rg.atS (Rg.atS (Rg.atS (Rg.atS (Rg.atS (Rg.atS (Rg.atS Rg.at0))))))))))))))))) rfl (by kernel_rfl) (fun c _ _ h => hP c _ _ _ (by rfl) h) (Or.inl ⟨Ev.wanted rfl, fun w_ => ?_⟩) rfl ?_
  · unfold execOp
    generalize a16.eval = ev at *
    go_simp
  obtain ⟨a17, qa17⟩ : ∃ z_, z_ = a16.put (some 91) (.int .i64 (if G (r * 4 + (c + 1)) < G ((r + 1) * 4 + c) then G ((r + 1) * 4 + c) else G (r * 4 + (c + 1)))) := ⟨_, rfl⟩
  have k17 : Ev.Stay [75, 76, 77, 78, 79, 80, 81, 82, 83, 84, 85, 86, 87, 88, 89, 90, 91, 92, 93] a a17 := by rw [qa17]; exact k16.put (by decide) _
  have e17_10 := Ev.oth qa17 (by decide) e16_10
  have e17_12 := Ev.oth qa17 (by decide) e16_12
  have e17_13 := Ev.oth qa17 (by decide) e16_13
  have e17_76 := Ev.oth qa17 (by decide) e16_76
  have e17_78 := Ev.oth qa17 (by decide) e16_78
  have e17_84 := Ev.oth qa17 (by decide) e16_84
  have e17_90 := Ev.oth qa17 (by decide) e16_90
  have e17_91 := Ev.sam qa17 (by rw [k16.1, hsz]; decide)
  rw [← qa17]
  clear qa17 e16_10 e16_12 e16_13 e16_76 e16_78 e16_84 e16_90
  clear e17_84
  clear e17_90
  refine pure_ (i := 17) (N := some 92) (v := .pointer (some ⟨B, (r + 1) * 4, none⟩)) #[true, true, true, true, true, true, true, true, true, true, true, true, true, true, true, true, true, true, false, false] (Rg.of hops (Rg.atS (Rg.atS (Rg.atS (Rg.atS (Rg.atS (Rg.atS (Rg.atS (Rg.atS (Rg.atS (Rg.atS (Rg.atS (Rg.atS (Rg.atS (Rg.atS (Rg.atS (Rg.atS (Rg.atS Rg.at0)))))))))))))))))) rfl (by kernel_rfl) (fun c _ _ h => hP c _ _ _ (by rfl) h) (Or.inl ⟨Ev.wanted rfl, fun w_ => ?_⟩) rfl ?_
  · have lk_ : (r + 1 : Int) < 4 := by omega
    have lk0_ : (0 : Int) ≤ (r + 1 : Int) := by omega
    unfold execOp
    generalize a17.eval = ev at *
    go_simp
  obtain ⟨a18, qa18⟩ : ∃ z_, z_ = a17.put (some 92) (.pointer (some ⟨B, (r + 1) * 4, none⟩)) := ⟨_, rfl⟩
  have k18 : Ev.Stay [75, 76, 77, 78, 79, 80, 81, 82, 83, 84, 85, 86, 87, 88, 89, 90, 91, 92, 93] a a18 := by rw [qa18]; exact k17.put (by decide) _
  have e18_10 := Ev.oth qa18 (by decide) e17_10
  have e18_12 := Ev.oth qa18 (by decide) e17_12
  have e18_13 := Ev.oth qa18 (by decide) e17_13
  have e18_76 := Ev.oth qa18 (by decide) e17_76
  have e18_78 := Ev.oth qa18 (by decide) e17_78
  have e18_91 := Ev.oth qa18 (by decide) e17_91
  have e18_92 := Ev.sam qa18 (by rw [k17.1, hsz]; decide)
  rw [← qa18]
  clear qa18 e17_10 e17_12 e17_13 e17_76 e17_78 e17_91
  clear e18_76
  refine pure_ (i := 18) (N := some 93) (v := .pointer (some ⟨B, (r + 1) * 4 + (c + 1), none⟩)) #[true, true, true, true, true, true, true, true, true, true, true, true, true, true, true, true, true, true, true, false] (Rg.of hops (Rg.atS (Rg.atS (Rg.atS (Rg.atS (Rg.atS (Rg.atS (Rg.atS (Rg.atS (Rg.atS (Rg.atS (Rg.atS (Rg.atS (Rg.atS (Rg.atS (Rg.atS (Rg.atS (Rg.atS (Rg.atS Rg.at0))))))))))))))))))) rfl (by kernel_rfl) (fun c _ _ h => hP c _ _ _ (by rfl) h) (Or.inl ⟨Ev.wanted rfl, fun w_ => ?_⟩) rfl ?_
  · have lk_ : (c + 1 : Int) < 4 := by omega
    have lk0_ : (0 : Int) ≤ (c + 1 : Int) := by omega
    unfold execOp
    generalize a18.eval = ev at *
    go_simp
  obtain ⟨a19, qa19⟩ : ∃ z_, z_ = a18.put (some 93) (.pointer (some ⟨B, (r + 1) * 4 + (c + 1), none⟩)) := ⟨_, rfl⟩
  have k19 : Ev.Stay [75, 76, 77, 78, 79, 80, 81, 82, 83, 84, 85, 86, 87, 88, 89, 90, 91, 92, 93] a a19 := by rw [qa19]; exact k18.put (by decide) _
  have e19_10 := Ev.oth qa19 (by decide) e18_10
  have e19_12 := Ev.oth qa19 (by decide) e18_12
  have e19_13 := Ev.oth qa19 (by decide) e18_13
  have e19_78 := Ev.oth qa19 (by decide) e18_78
  have e19_91 := Ev.oth qa19 (by decide) e18_91
  have e19_92 := Ev.oth qa19 (by decide) e18_92
  have e19_93 := Ev.sam qa19 (by rw [k18.1, hsz]; decide)
  rw [← qa19]
  clear qa19 e18_10 e18_12 e18_13 e18_78 e18_91 e18_92
  clear e19_92
  clear e19_78
  refine last_ (i := 19) (N := none) #[true, true, true, true, true, true, true, true, true, true, true, true, true, true, true, true, true, true, true, true] (Rg.of hops (Rg.atS (Rg.atS (Rg.atS (Rg.atS (Rg.atS (Rg.atS (Rg.atS (Rg.atS (Rg.atS (Rg.atS (Rg.atS (Rg.atS (Rg.atS (Rg.atS (Rg.atS (Rg.atS (Rg.atS (Rg.atS (Rg.atS Rg.at0)))))))))))))))))))) rfl (by kernel_rfl) (by decide) (fun K hK => ?_)
  rw [if_pos (Ev.wanted rfl)]
  refine Ev.store rfl rfl e19_93 e19_91 (Ev.store3 (arr_cell hHeld (by omega)) (arr_frozen hHeld)) ?_
  refine hK.out _ _ ?_
  refine done_ (by kernel_rfl) ?_
  exact hQ _ k19
set_option maxHeartbeats 2000000 in
theorem Rg.s22 {id : Nat} {Q : Exit → Act → World → Prop} {a : Act} {W : World} {B t k : Nat} {x d e x2 : Int} {G : Nat → Int}
    (hsz : a.tmps.size = 137) (hP : ∀ c a a' w, a'.defers = a.defers → Q (.panic c) a w → Q (.panic c) a' w)  (h10 : a.eval (.tmp 10) = .pointer (some ⟨B, 0, none⟩)) (h0 : a.eval (.tmp 0) = .int .i64 (t : Int)) (h14 : a.eval (.tmp 14) = .int .i64 (k : Int)) (h8 : a.eval (.tmp 8) = .int .i64 (x)) (hG : W.drew.heap[B]? = some (.cells (arr G) 81 (0, 0))) (ht : t < 4) (hk : k < 3) (hd : G (t * 4 + (k + 1)) - G (t * 4 + k) = d) (hdb : 0 ≤ d ∧ d ≤ 1) (hd1 : bits .and .i64 d 1 = d) (hs : IntKind.i64.wrap (d * 2 ^ k) = e) (ho : bits .or .i64 x e = x2)
    (hQ : ∀ a', Ev.Stay [8, 100, 101, 102, 103, 104, 105, 106, 107, 108, 109, 110, 111, 112, 113, 114, 115, 116] a a' → a'.eval (.tmp 8) = .int .i64 x2 → Q .normal a' W.drew) : (Code.region id (Rg.ops 33 22) true).wp Try.prog Q a W := by
  have hops : Rg.ops 33 22 = List.toArray [_, _, _, _, _, _, _, _, _, _, _, _, _, _, _, _, _, _] := rfl
  refine start_ (S := fun w_ => w_.heap[B]? = some (.cells (arr G) 81 (0, 0))) (ds := []) #[false, false, false, false, false, false, false, false, false, false, false, false, false, false, false, false, false, false] (by kernel_rfl) (n := 18) rfl rfl ?S0 (fun hHeld => ?_)
  case S0 => exact hG
  have k0 : Ev.Stay [8, 100, 101, 102, 103, 104, 105, 106, 107, 108, 109, 110, 111, 112, 113, 114, 115, 116] a a := Ev.Stay.refl [8, 100, 101, 102, 103, 104, 105, 106, 107, 108, 109, 110, 111, 112, 113, 114, 115, 116] a
  refine pure_ (i := 0) (N := some 100) (v := .int .i64 (x)) #[true, false, false, false, false, false, false, false, false, false, false, false, false, false, false, false, false, false] (Rg.of hops Rg.at0) rfl (by kernel_rfl) (fun c _ _ h => hP c _ _ _ (by rfl) h) (Or.inl ⟨Ev.wanted rfl, fun w_ => ?_⟩) rfl ?_
  · unfold execOp
    generalize a.eval = ev at *
    go_simp
  obtain ⟨a1, qa1⟩ : ∃ z_, z_ = a.put (some 100) (.int .i64 (x)) := ⟨_, rfl⟩
  have k1 : Ev.Stay [8, 100, 101, 102, 103, 104, 105, 106, 107, 108, 109, 110, 111, 112, 113, 114, 115, 116] a a1 := by rw [qa1]; exact k0.put (by decide) _
  have e1_10 := Ev.oth qa1 (by decide) h10
  have e1_0 := Ev.oth qa1 (by decide) h0
  have e1_14 := Ev.oth qa1 (by decide) h14
  have e1_8 := Ev.oth qa1 (by decide) h8
  have e1_100 := Ev.sam qa1 (by rw [k0.1, hsz]; decide)
  rw [← qa1]
  clear qa1 
  refine pure_ (i := 1) (N := some 101) (v := .int .i64 (t : Int)) #[true, true, false, false, false, false, false, false, false, false, false, false, false, false, false, false, false, false] (Rg.of hops (Rg.atS Rg.at0)) rfl (by kernel_rfl) (fun c _ _ h => hP c _ _ _ (by rfl) h) (Or.inl ⟨Ev.wanted rfl, fun w_ => ?_⟩) rfl ?_
  · unfold execOp
    generalize a1.eval = ev at *
    go_simp
  obtain ⟨a2, qa2⟩ : ∃ z_, z_ = a1.put (some 101) (.int .i64 (t : Int)) := ⟨_, rfl⟩
  have k2 : Ev.Stay [8, 100, 101, 102, 103, 104, 105, 106, 107, 108, 109, 110, 111, 112, 113, 114, 115, 116] a a2 := by rw [qa2]; exact k1.put (by decide) _
  have e2_10 := Ev.oth qa2 (by decide) e1_10
  have e2_0 := Ev.oth qa2 (by decide) e1_0
  have e2_14 := Ev.oth qa2 (by decide) e1_14
  have e2_8 := Ev.oth qa2 (by decide) e1_8
  have e2_100 := Ev.oth qa2 (by decide) e1_100
  have e2_101 := Ev.sam qa2 (by rw [k1.1, hsz]; decide)
  rw [← qa2]
  clear qa2 e1_10 e1_0 e1_14 e1_8 e1_100
  refine pure_ (i := 2) (N := some 102) (v := .int .i64 (k : Int)) #[true, true, true, false, false, false, false, false, false, false, false, false, false, false, false, false, false, false] (Rg.of hops (Rg.atS (Rg.atS Rg.at0))) rfl (by kernel_rfl) (fun c _ _ h => hP c _ _ _ (by rfl) h) (Or.inl ⟨Ev.wanted rfl, fun w_ => ?_⟩) rfl ?_
  · unfold execOp
    generalize a2.eval = ev at *
    go_simp
  obtain ⟨a3, qa3⟩ : ∃ z_, z_ = a2.put (some 102) (.int .i64 (k : Int)) := ⟨_, rfl⟩
  have k3 : Ev.Stay [8, 100, 101, 102, 103, 104, 105, 106, 107, 108, 109, 110, 111, 112, 113, 114, 115, 116] a a3 := by rw [qa3]; exact k2.put (by decide) _
  have e3_10 := Ev.oth qa3 (by decide) e2_10
  have e3_0 := Ev.oth qa3 (by decide) e2_0
  have e3_14 := Ev.oth qa3 (by decide) e2_14
  have e3_8 := Ev.oth qa3 (by decide) e2_8
  have e3_100 := Ev.oth qa3 (by decide) e2_100
  have e3_101 := Ev.oth qa3 (by decide) e2_101
  have e3_102 := Ev.sam qa3 (by rw [k2.1, hsz]; decide)
  rw [← qa3]
  clear qa3 e2_10 e2_0 e2_14 e2_8 e2_100 e2_101
  refine pure_ (i := 3) (N := some 103) (v := .int .i64 ((k + 1 : Nat) : Int)) #[true, true, true, true, false, false, false, false, false, false, false, false, false, false, false, false, false, false] (Rg.of hops (Rg.atS (Rg.atS (Rg.atS Rg.at0)))) rfl (by kernel_rfl) (fun c _ _ h => hP c _ _ _ (by rfl) h) (Or.inl ⟨Ev.wanted rfl, fun w_ => ?_⟩) rfl ?_
  · have ec0 : a3.eval (.const (.int .i64 (1))) = .int .i64 (1) := rfl
    unfold execOp
    generalize a3.eval = ev at *
    (go_simp; exact wr (by omega) (by omega))
  obtain ⟨a4, qa4⟩ : ∃ z_, z_ = a3.put (some 103) (.int .i64 ((k + 1 : Nat) : Int)) := ⟨_, rfl⟩
  have k4 : Ev.Stay [8, 100, 101, 102, 103, 104, 105, 106, 107, 108, 109, 110, 111, 112, 113, 114, 115, 116] a a4 := by rw [qa4]; exact k3.put (by decide) _
  have e4_10 := Ev.oth qa4 (by decide) e3_10
  have e4_0 := Ev.oth qa4 (by decide) e3_0
  have e4_14 := Ev.oth qa4 (by decide) e3_14
  have e4_8 := Ev.oth qa4 (by decide) e3_8
  have e4_100 := Ev.oth qa4 (by decide) e3_100
  have e4_101 := Ev.oth qa4 (by decide) e3_101
  have e4_102 := Ev.oth qa4 (by decide) e3_102
  have e4_103 := Ev.sam qa4 (by rw [k3.1, hsz]; decide)
  rw [← qa4]
  clear qa4 e3_10 e3_0 e3_14 e3_8 e3_100 e3_101 e3_102
  clear e4_102
  refine pure_ (i := 4) (N := some 104) (v := .pointer (some ⟨B, t * 4, none⟩)) #[true, true, true, true, true, false, false, false, false, false, false, false, false, false, false, false, false, false] (Rg.of hops (Rg.atS (Rg.atS (Rg.atS (Rg.atS Rg.at0))))) rfl (by kernel_rfl) (fun c _ _ h => hP c _ _ _ (by rfl) h) (Or.inl ⟨Ev.wanted rfl, fun w_ => ?_⟩) rfl ?_
  · have lk_ : (t : Int) < 4 := by omega
    have lk0_ : (0 : Int) ≤ (t : Int) := by omega
    unfold execOp
    generalize a4.eval = ev at *
    go_simp
  obtain ⟨a5, qa5⟩ : ∃ z_, z_ = a4.put (some 104) (.pointer (some ⟨B, t * 4, none⟩)) := ⟨_, rfl⟩
  have k5 : Ev.Stay [8, 100, 101, 102, 103, 104, 105, 106, 107, 108, 109, 110, 111, 112, 113, 114, 115, 116] a a5 := by rw [qa5]; exact k4.put (by decide) _
  have e5_10 := Ev.oth qa5 (by decide) e4_10
  have e5_0 := Ev.oth qa5 (by decide) e4_0
  have e5_14 := Ev.oth qa5 (by decide) e4_14
  have e5_8 := Ev.oth qa5 (by decide) e4_8
  have e5_100 := Ev.oth qa5 (by decide) e4_100
  have e5_101 := Ev.oth qa5 (by decide) e4_101
  have e5_103 := Ev.oth qa5 (by decide) e4_103
  have e5_104 := Ev.sam qa5 (by rw [k4.1, hsz]; decide)
  rw [← qa5]
  clear qa5 e4_10 e4_0 e4_14 e4_8 e4_100 e4_101 e4_103
  clear e5_101
  refine pure_ (i := 5) (N := some 105) (v := .pointer (some ⟨B, t * 4 + (k + 1), none⟩)) #[true, true, true, true, true, true, false, false, false, false, false, false, false, false, false, false, false, false] (Rg.of hops (Rg.atS (Rg.atS (Rg.atS (Rg.atS (Rg.atS Rg.at0)))))) rfl (by kernel_rfl) (fun c _ _ h => hP c _ _ _ (by rfl) h) (Or.inl ⟨Ev.wanted rfl, fun w_ => ?_⟩) rfl ?_
  · have lk_ : (k + 1 : Int) < 4 := by omega
    have lk0_ : (0 : Int) ≤ (k + 1 : Int) := by omega
    unfold execOp
    generalize a5.eval = ev at *
    go_simp
  obtain ⟨a6, qa6⟩ : ∃ z_, z_ = a5.put (some 105) (.pointer (some ⟨B, t * 4 + (k + 1), none⟩)) := ⟨_, rfl⟩
  have k6 : Ev.Stay [8, 100, 101, 102, 103, 104, 105, 106, 107, 108, 109, 110, 111, 112, 113, 114, 115, 116] a a6 := by rw [qa6]; exact k5.put (by decide) _
  have e6_10 := Ev.oth qa6 (by decide) e5_10
  have e6_0 := Ev.oth qa6 (by decide) e5_0
  have e6_14 := Ev.oth qa6 (by decide) e5_14
  have e6_8 := Ev.oth qa6 (by decide) e5_8
  have e6_100 := Ev.oth qa6 (by decide) e5_100
  have e6_103 := Ev.oth qa6 (by decide) e5_103
  have e6_104 := Ev.oth qa6 (by decide) e5_104
  have e6_105 := Ev.sam qa6 (by rw [k5.1, hsz]; decide)
  rw [← qa6]
  clear qa6 e5_10 e5_0 e5_14 e5_8 e5_100 e5_103 e5_104
  clear e6_104
  clear e6_103
  refine take_ (i := 6) (N := some 106) (v := .int .i64 (G (t * 4 + (k + 1)))) #[true, true, true, true, true, true, true, false, false, false, false, false, false, false, false, false, false, false] (Rg.of hops (Rg.atS (Rg.atS (Rg.atS (Rg.atS (Rg.atS (Rg.atS Rg.at0))))))) rfl (by kernel_rfl) (fun c _ _ h => hP c _ _ _ (by rfl) h) (Ev.loadW (Ev.wanted rfl) rfl e6_105 (fun w hw => Ev.load3 (arr_cell hw (by omega)))) hHeld rfl ?_
  obtain ⟨a7, qa7⟩ : ∃ z_, z_ = a6.put (some 106) (.int .i64 (G (t * 4 + (k + 1)))) := ⟨_, rfl⟩
  have k7 : Ev.Stay [8, 100, 101, 102, 103, 104, 105, 106, 107, 108, 109, 110, 111, 112, 113, 114, 115, 116] a a7 := by rw [qa7]; exact k6.put (by decide) _
  have e7_10 := Ev.oth qa7 (by decide) e6_10
  have e7_0 := Ev.oth qa7 (by decide) e6_0
  have e7_14 := Ev.oth qa7 (by decide) e6_14
  have e7_8 := Ev.oth qa7 (by decide) e6_8
  have e7_100 := Ev.oth qa7 (by decide) e6_100
  have e7_105 := Ev.oth qa7 (by decide) e6_105
  have e7_106 := Ev.sam qa7 (by rw [k6.1, hsz]; decide)
  rw [← qa7]
  clear qa7 e6_10 e6_0 e6_14 e6_8 e6_100 e6_105
  clear e7_105
  refine pure_ (i := 7) (N := some 107) (v := .int .i64 (t : Int)) #[true, true, true, true, true, true, true, true, false, false, false, false, false, false, false, false, false, false] (Rg.of hops (Rg.atS (Rg.atS (Rg.atS (Rg.atS (Rg.atS (Rg.atS (Rg.atS Rg.at0)))))))) rfl (by kernel_rfl) (fun c _ _ h => hP c _ _ _ (by rfl) h) (Or.inl ⟨Ev.wanted rfl, fun w_ => ?_⟩) rfl ?_
  · unfold execOp
    generalize a7.eval = ev at *
    go_simp
  obtain ⟨a8, qa8⟩ : ∃ z_, z_ = a7.put (some 107) (.int .i64 (t : Int)) := ⟨_, rfl⟩
  have k8 : Ev.Stay [8, 100, 101, 102, 103, 104, 105, 106, 107, 108, 109, 110, 111, 112, 113, 114, 115, 116] a a8 := by rw [qa8]; exact k7.put (by decide) _
  have e8_10 := Ev.oth qa8 (by decide) e7_10
  have e8_0 := Ev.oth qa8 (by decide) e7_0
  have e8_14 := Ev.oth qa8 (by decide) e7_14
  have e8_8 := Ev.oth qa8 (by decide) e7_8
  have e8_100 := Ev.oth qa8 (by decide) e7_100
  have e8_106 := Ev.oth qa8 (by decide) e7_106
  have e8_107 := Ev.sam qa8 (by rw [k7.1, hsz]; decide)
  rw [← qa8]
  clear qa8 e7_10 e7_0 e7_14 e7_8 e7_100 e7_106
  refine pure_ (i := 8) (N := some 108) (v := .int .i64 (k : Int)) #[true, true, true, true, true, true, true, true, true, false, false, false, false, false, false, false, false, false] (Rg.of hops (Rg.atS (Rg.atS (Rg.atS (Rg.atS (Rg.atS (Rg.atS (Rg.atS (Rg.atS Rg.at0))))))))) rfl (by kernel_rfl) (fun c _ _ h => hP c _ _ _ (by rfl) h) (Or.inl ⟨Ev.wanted rfl, fun w_ => ?_⟩) rfl ?_
  · unfold execOp
    generalize a8.eval = ev at *
    go_simp
  obtain ⟨a9, qa9⟩ : ∃ z_, z_ = a8.put (some 108) (.int .i64 (k : Int)) := ⟨_, rfl⟩
  have k9 : Ev.Stay [8, 100, 101, 102, 103, 104, 105, 106, 107, 108, 109, 110, 111, 112, 113, 114, 115, 116] a a9 := by rw [qa9]; exact k8.put (by decide) _
  have e9_10 := Ev.oth qa9 (by decide) e8_10
  have e9_0 := Ev.oth qa9 (by decide) e8_0
  have e9_14 := Ev.oth qa9 (by decide) e8_14
  have e9_8 := Ev.oth qa9 (by decide) e8_8
  have e9_100 := Ev.oth qa9 (by decide) e8_100
  have e9_106 := Ev.oth qa9 (by decide) e8_106
  have e9_107 := Ev.oth qa9 (by decide) e8_107
  have e9_108 := Ev.sam qa9 (by rw [k8.1, hsz]; decide)
  rw [← qa9]
  clear qa9 e8_10 e8_0 e8_14 e8_8 e8_100 e8_106 e8_107
  refine pure_ (i := 9) (N := some 109) (v := .pointer (some ⟨B, t * 4, none⟩)) #[true, true, true, true, true, true, true, true, true, true, false, false, false, false, false, false, false, false] (Rg.of hops (Rg.atS (Rg.atS (Rg.atS (Rg.atS (Rg.atS (Rg.atS (Rg.atS (Rg.atS (Rg.atS Rg.at0)))))))))) rfl (by kernel_rfl) (fun c _ _ h => hP c _ _ _ (by rfl) h) (Or.inl ⟨Ev.wanted rfl, fun w_ => ?_⟩) rfl ?_
  · have lk_ : (t : Int) < 4 := by omega
    have lk0_ : (0 : Int) ≤ (t : Int) := by omega
    unfold execOp
    generalize a9.eval = ev at *
    go_simp
  obtain ⟨a10, qa10⟩ : ∃ z_, z_ = a9.put (some 109) (.pointer (some ⟨B, t * 4, none⟩)) := ⟨_, rfl⟩
  have k10 : Ev.Stay [8, 100, 101, 102, 103, 104, 105, 106, 107, 108, 109, 110, 111, 112, 113, 114, 115, 116] a a10 := by rw [qa10]; exact k9.put (by decide) _
  have e10_10 := Ev.oth qa10 (by decide) e9_10
  have e10_0 := Ev.oth qa10 (by decide) e9_0
  have e10_14 := Ev.oth qa10 (by decide) e9_14
  have e10_8 := Ev.oth qa10 (by decide) e9_8
  have e10_100 := Ev.oth qa10 (by decide) e9_100
  have e10_106 := Ev.oth qa10 (by decide) e9_106
  have e10_107 := Ev.oth qa10 (by decide) e9_107
  have e10_108 := Ev.oth qa10 (by decide) e9_108
  have e10_109 := Ev.sam qa10 (by rw [k9.1, hsz]; decide)
  rw [← qa10]
  clear qa10 e9_10 e9_0 e9_14 e9_8 e9_100 e9_106 e9_107 e9_108
  clear e10_107
  refine pure_ (i := 10) (N := some 110) (v := .pointer (some ⟨B, t * 4 + k, none⟩)) #[true, true, true, true, true, true, true, true, true, true, true, false, false, false, false, false, false, false] (Rg.of hops (Rg.atS (Rg.atS (Rg.atS (Rg.atS (Rg.atS (Rg.atS (Rg.atS (Rg.atS (Rg.atS (Rg.atS Rg.at0))))))))))) rfl (by kernel_rfl) (fun c _ _ h => hP c _ _ _ (by rfl) h) (Or.inl ⟨Ev.wanted rfl, fun w_ => ?_⟩) rfl ?_
  · have lk_ : (k : Int) < 4 := by omega
    have lk0_ : (0 : Int) ≤ (k : Int) := by omega
    unfold execOp
    generalize a10.eval = ev at *
    go_simp
  obtain ⟨a11, qa11⟩ : ∃ z_, z_ = a10.put (some 110) (.pointer (some ⟨B, t * 4 + k, none⟩)) := ⟨_, rfl⟩
  have k11 : Ev.Stay [8, 100, 101, 102, 103, 104, 105, 106, 107, 108, 109, 110, 111, 112, 113, 114, 115, 116] a a11 := by rw [qa11]; exact k10.put (by decide) _
  have e11_10 := Ev.oth qa11 (by decide) e10_10
  have e11_0 := Ev.oth qa11 (by decide) e10_0
  have e11_14 := Ev.oth qa11 (by decide) e10_14
  have e11_8 := Ev.oth qa11 (by decide) e10_8
  have e11_100 := Ev.oth qa11 (by decide) e10_100
  have e11_106 := Ev.oth qa11 (by decide) e10_106
  have e11_108 := Ev.oth qa11 (by decide) e10_108
  have e11_109 := Ev.oth qa11 (by decide) e10_109
  have e11_110 := Ev.sam qa11 (by rw [k10.1, hsz]; decide)
  rw [← qa11]
  clear qa11 e10_10 e10_0 e10_14 e10_8 e10_100 e10_106 e10_108 e10_109
  clear e11_109
  clear e11_108
  refine take_ (i := 11) (N := some 111) (v := .int .i64 (G (t * 4 + k))) #[true, true, true, true, true, true, true, true, true, true, true, true, false, false, false, false, false, false] (Rg.of hops (Rg.atS (Rg.atS (Rg.atS (Rg.atS (Rg.atS (Rg.atS (Rg.atS (Rg.atS (Rg.atS (Rg.atS (Rg.atS Rg.at0)))))))))))) rfl (by kernel_rfl) (fun c _ _ h => hP c _ _ _ (by rfl) h) (Ev.loadW (Ev.wanted rfl) rfl e11_110 (fun w hw => Ev.load3 (arr_cell hw (by omega)))) hHeld rfl ?_
  obtain ⟨a12, qa12⟩ : ∃ z_, z_ = a11.put (some 111) (.int .i64 (G (t * 4 + k))) := ⟨_, rfl⟩
  have k12 : Ev.Stay [8, 100, 101, 102, 103, 104, 105, 106, 107, 108, 109, 110, 111, 112, 113, 114, 115, 116] a a12 := by rw [qa12]; exact k11.put (by decide) _
  have e12_10 := Ev.oth qa12 (by decide) e11_10
  have e12_0 := Ev.oth qa12 (by decide) e11_0
  have e12_14 := Ev.oth qa12 (by decide) e11_14
  have e12_8 := Ev.oth qa12 (by decide) e11_8
  have e12_100 := Ev.oth qa12 (by decide) e11_100
  have e12_106 := Ev.oth qa12 (by decide) e11_106
  have e12_110 := Ev.oth qa12 (by decide) e11_110
  have e12_111 := Ev.sam qa12 (by rw [k11.1, hsz]; decide)
  rw [← qa12]
  clear qa12 e11_10 e11_0 e11_14 e11_8 e11_100 e11_106 e11_110
  clear e12_110
  refine pure_ (i := 12) (N := some 112) (v := .int .i64 (d)) #[true, true, true, true, true, true, true, true, true, true, true, true, true, false, false, false, false, false] (Rg.of hops (Rg.atS (Rg.atS (Rg.atS (Rg.atS (Rg.atS (Rg.atS (Rg.atS (Rg.atS (Rg.atS (Rg.atS (Rg.atS (Rg.atS Rg.at0))))))))))))) rfl (by kernel_rfl) (fun c _ _ h => hP c _ _ _ (by rfl) h) (Or.inl ⟨Ev.wanted rfl, fun w_ => ?_⟩) rfl ?_
  · have hd_ := hd
    have d1 := hdb.1
    have d2 := hdb.2
    unfold execOp
    generalize a12.eval = ev at *
    (go_simp; exact wr (by omega) (by omega))
  obtain ⟨a13, qa13⟩ : ∃ z_, z_ = a12.put (some 112) (.int .i64 (d)) := ⟨_, rfl⟩
  have k13 : Ev.Stay [8, 100, 101, 102, 103, 104, 105, 106, 107, 108, 109, 110, 111, 112, 113, 114, 115, 116] a a13 := by rw [qa13]; exact k12.put (by decide) _
  have e13_10 := Ev.oth qa13 (by decide) e12_10
  have e13_0 := Ev.oth qa13 (by decide) e12_0
  have e13_14 := Ev.oth qa13 (by decide) e12_14
  have e13_8 := Ev.oth qa13 (by decide) e12_8
  have e13_100 := Ev.oth qa13 (by decide) e12_100
  have e13_106 := Ev.oth qa13 (by decide) e12_106
  have e13_111 := Ev.oth qa13 (by decide) e12_111
  have e13_112 := Ev.sam qa13 (by rw [k12.1, hsz]; decide)
  rw [← qa13]
  clear qa13 e12_10 e12_0 e12_14 e12_8 e12_100 e12_106 e12_111
  clear e13_106
  clear e13_111
  refine pure_ (i := 13) (N := some 113) (v := .int .i64 (d)) #[true, true, true, true, true, true, true, true, true, true, true, true, true, true, false, false, false, false] (Rg.of hops (Rg.atS (Rg.atS (Rg.atS (Rg.atS (Rg.atS (Rg.atS (Rg.atS (Rg.atS (Rg.atS (Rg.atS (Rg.atS (Rg.atS (Rg.atS Rg.at0)))))))))))))) rfl (by kernel_rfl) (fun c _ _ h => hP c _ _ _ (by rfl) h) (Or.inl ⟨Ev.wanted rfl, fun w_ => ?_⟩) rfl ?_
  · have ec0 : a13.eval (.const (.int .i64 (1))) = .int .i64 (1) := rfl
    have hd1_ := hd1
    unfold execOp
    generalize a13.eval = ev at *
    go_simp
  obtain ⟨a14, qa14⟩ : ∃ z_, z_ = a13.put (some 113) (.int .i64 (d)) := ⟨_, rfl⟩
  have k14 : Ev.Stay [8, 100, 101, 102, 103, 104, 105, 106, 107, 108, 109, 110, 111, 112, 113, 114, 115, 116] a a14 := by rw [qa14]; exact k13.put (by decide) _
  have e14_10 := Ev.oth qa14 (by decide) e13_10
  have e14_0 := Ev.oth qa14 (by decide) e13_0
  have e14_14 := Ev.oth qa14 (by decide) e13_14
  have e14_8 := Ev.oth qa14 (by decide) e13_8
  have e14_100 := Ev.oth qa14 (by decide) e13_100
  have e14_112 := Ev.oth qa14 (by decide) e13_112
  have e14_113 := Ev.sam qa14 (by rw [k13.1, hsz]; decide)
  rw [← qa14]
  clear qa14 e13_10 e13_0 e13_14 e13_8 e13_100 e13_112
  clear e14_112
  refine pure_ (i := 14) (N := some 114) (v := .int .i64 (k : Int)) #[true, true, true, true, true, true, true, true, true, true, true, true, true, true, true, false, false, false] (Rg.of hops (Rg.atS (Rg.atS (Rg.atS (Rg.atS (Rg.atS (Rg.atS (Rg.atS (Rg.atS (Rg.atS (Rg.atS (Rg.atS (Rg.atS (Rg.atS (Rg.atS Rg.at0))))))))))))))) rfl (by kernel_rfl) (fun c _ _ h => hP c _ _ _ (by rfl) h) (Or.inl ⟨Ev.wanted rfl, fun w_ => ?_⟩) rfl ?_
  · unfold execOp
    generalize a14.eval = ev at *
    go_simp
  obtain ⟨a15, qa15⟩ : ∃ z_, z_ = a14.put (some 114) (.int .i64 (k : Int)) := ⟨_, rfl⟩
  have k15 : Ev.Stay [8, 100, 101, 102, 103, 104, 105, 106, 107, 108, 109, 110, 111, 112, 113, 114, 115, 116] a a15 := by rw [qa15]; exact k14.put (by decide) _
  have e15_10 := Ev.oth qa15 (by decide) e14_10
  have e15_0 := Ev.oth qa15 (by decide) e14_0
  have e15_14 := Ev.oth qa15 (by decide) e14_14
  have e15_8 := Ev.oth qa15 (by decide) e14_8
  have e15_100 := Ev.oth qa15 (by decide) e14_100
  have e15_113 := Ev.oth qa15 (by decide) e14_113
  have e15_114 := Ev.sam qa15 (by rw [k14.1, hsz]; decide)
  rw [← qa15]
  clear qa15 e14_10 e14_0 e14_14 e14_8 e14_100 e14_113
  refine pure_ (i := 15) (N := some 115) (v := .int .i64 (e)) #[true, true, true, true, true, true, true, true, true, true, true, true, true, true, true, true, false, false] (Rg.of hops (Rg.atS (Rg.atS (Rg.atS (Rg.atS (Rg.atS (Rg.atS (Rg.atS (Rg.atS (Rg.atS (Rg.atS (Rg.atS (Rg.atS (Rg.atS (Rg.atS (Rg.atS Rg.at0)))))))))))))))) rfl (by kernel_rfl) (fun c _ _ h => hP c _ _ _ (by rfl) h) (Or.inl ⟨Ev.wanted rfl, fun w_ => ?_⟩) rfl ?_
  · have lk_ : (k : Int) < 4 := by omega
    have lk0_ : (0 : Int) ≤ (k : Int) := by omega
    have hs_ := hs
    unfold execOp
    generalize a15.eval = ev at *
    go_simp
  obtain ⟨a16, qa16⟩ : ∃ z_, z_ = a15.put (some 115) (.int .i64 (e)) := ⟨_, rfl⟩
  have k16 : Ev.Stay [8, 100, 101, 102, 103, 104, 105, 106, 107, 108, 109, 110, 111, 112, 113, 114, 115, 116] a a16 := by rw [qa16]; exact k15.put (by decide) _
  have e16_10 := Ev.oth qa16 (by decide) e15_10
  have e16_0 := Ev.oth qa16 (by decide) e15_0
  have e16_14 := Ev.oth qa16 (by decide) e15_14
  have e16_8 := Ev.oth qa16 (by decide) e15_8
  have e16_100 := Ev.oth qa16 (by decide) e15_100
  have e16_113 := Ev.oth qa16 (by decide) e15_113
  have e16_114 := Ev.oth qa16 (by decide) e15_114
  have e16_115 := Ev.sam qa16 (by rw [k15.1, hsz]; decide)
  rw [← qa16]
  clear qa16 e15_10 e15_0 e15_14 e15_8 e15_100 e15_113 e15_114
  clear e16_113
  clear e16_114
  refine pure_ (i := 16) (N := some 116) (v := .int .i64 (x2)) #[true, true, true, true, true, true, true, true, true, true, true, true, true, true, true, true, true, false] (Rg.of hops (Rg.atS (Rg.atS (Rg.atS (Rg.atS (Rg.atS (Rg.atS (Rg.atS (Rg.atS (Rg.atS (Rg.atS (Rg.atS (Rg.atS (Rg.atS (Rg.atS (Rg.atS (Rg.atS Rg.at0))))))))))))))))) rfl (by kernel_rfl) (fun c _ _ h => hP c _ _ _ (by rfl) h) (Or.inl ⟨Ev.wanted rfl, fun w_ => ?_⟩) rfl ?_
  · have ho_ := ho
    unfold execOp
    generalize a16.eval = ev at *
    go_simp
  obtain ⟨a17, qa17⟩ : ∃ z_, z_ = a16.put (some 116) (.int .i64 (x2)) := ⟨_, rfl⟩
  have k17 : Ev.Stay [8, 100, 101, 102, 103, 104, 105, 106, 107, 108, 109, 110, 111, 112, 113, 114, 115, 116] a a17 := by rw [qa17]; exact k16.put (by decide) _
  have e17_10 := Ev.oth qa17 (by decide) e16_10
  have e17_0 := Ev.oth qa17 (by decide) e16_0
  have e17_14 := Ev.oth qa17 (by decide) e16_14
  have e17_8 := Ev.oth qa17 (by decide) e16_8
  have e17_100 := Ev.oth qa17 (by decide) e16_100
  have e17_115 := Ev.oth qa17 (by decide) e16_115
  have e17_116 := Ev.sam qa17 (by rw [k16.1, hsz]; decide)
  rw [← qa17]
  clear qa17 e16_10 e16_0 e16_14 e16_8 e16_100 e16_115
  clear e17_100
  clear e17_115
  refine pure_ (i := 17) (N := some 8) (v := .int .i64 (x2)) #[true, true, true, true, true, true, true, true, true, true, true, true, true, true, true, true, true, true] (Rg.of hops (Rg.atS (Rg.atS (Rg.atS (Rg.atS (Rg.atS (Rg.atS (Rg.atS (Rg.atS (Rg.atS (Rg.atS (Rg.atS (Rg.atS (Rg.atS (Rg.atS (Rg.atS (Rg.atS (Rg.atS Rg.at0)))))))))))))))))) rfl (by kernel_rfl) (fun c _ _ h => hP c _ _ _ (by rfl) h) (Or.inl ⟨Ev.wanted rfl, fun w_ => ?_⟩) rfl ?_
  · unfold execOp
    generalize a17.eval = ev at *
    go_simp
  obtain ⟨a18, qa18⟩ : ∃ z_, z_ = a17.put (some 8) (.int .i64 (x2)) := ⟨_, rfl⟩
  have k18 : Ev.Stay [8, 100, 101, 102, 103, 104, 105, 106, 107, 108, 109, 110, 111, 112, 113, 114, 115, 116] a a18 := by rw [qa18]; exact k17.put (by decide) _
  have e18_10 := Ev.oth qa18 (by decide) e17_10
  have e18_0 := Ev.oth qa18 (by decide) e17_0
  have e18_14 := Ev.oth qa18 (by decide) e17_14
  have e18_116 := Ev.oth qa18 (by decide) e17_116
  have e18_8 := Ev.sam qa18 (by rw [k17.1, hsz]; decide)
  rw [← qa18]
  clear qa18 e17_10 e17_0 e17_14 e17_8 e17_116
  refine done_ (by kernel_rfl) ?_
  exact hQ _ k18 e18_8
set_option maxHeartbeats 2000000 in
theorem Rg.s23 {id : Nat} {Q : Exit → Act → World → Prop} {a : Act} {W : World} {B t k : Nat} {x d e x2 : Int} {G : Nat → Int}
    (hsz : a.tmps.size = 137) (hP : ∀ c a a' w, a'.defers = a.defers → Q (.panic c) a w → Q (.panic c) a' w)  (h10 : a.eval (.tmp 10) = .pointer (some ⟨B, 0, none⟩)) (h0 : a.eval (.tmp 0) = .int .i64 (t : Int)) (h14 : a.eval (.tmp 14) = .int .i64 (k : Int)) (h9 : a.eval (.tmp 9) = .int .i64 (x)) (hG : W.drew.heap[B]? = some (.cells (arr G) 81 (0, 0))) (ht : t < 4) (hk : k < 3) (hd : G ((k + 1) * 4 + t) - G (k * 4 + t) = d) (hdb : 0 ≤ d ∧ d ≤ 1) (hd1 : bits .and .i64 d 1 = d) (hs : IntKind.i64.wrap (d * 2 ^ k) = e) (ho : bits .or .i64 x e = x2)
    (hQ : ∀ a', Ev.Stay [9, 117, 118, 119, 120, 121, 122, 123, 124, 125, 126, 127, 128, 129, 130, 131, 132, 133] a a' → a'.eval (.tmp 9) = .int .i64 x2 → Q .normal a' W.drew) : (Code.region id (Rg.ops 33 23) true).wp Try.prog Q a W := by
  have hops : Rg.ops 33 23 = List.toArray [_, _, _, _, _, _, _, _, _, _, _, _, _, _, _, _, _, _] := rfl
  refine start_ (S := fun w_ => w_.heap[B]? = some (.cells (arr G) 81 (0, 0))) (ds := []) #[false, false, false, false, false, false, false, false, false, false, false, false, false, false, false, false, false, false] (by kernel_rfl) (n := 18) rfl rfl ?S0 (fun hHeld => ?_)
  case S0 => exact hG
  have k0 : Ev.Stay [9, 117, 118, 119, 120, 121, 122, 123, 124, 125, 126, 127, 128, 129, 130, 131, 132, 133] a a := Ev.Stay.refl [9, 117, 118, 119, 120, 121, 122, 123, 124, 125, 126, 127, 128, 129, 130, 131, 132, 133] a
  refine pure_ (i := 0) (N := some 117) (v := .int .i64 (x)) #[true, false, false, false, false, false, false, false, false, false, false, false, false, false, false, false, false, false] (Rg.of hops Rg.at0) rfl (by kernel_rfl) (fun c _ _ h => hP c _ _ _ (by rfl) h) (Or.inl ⟨Ev.wanted rfl, fun w_ => ?_⟩) rfl ?_
  · unfold execOp
    generalize a.eval = ev at *
    go_simp
  obtain ⟨a1, qa1⟩ : ∃ z_, z_ = a.put (some 117) (.int .i64 (x)) := ⟨_, rfl⟩
  have k1 : Ev.Stay [9, 117, 118, 119, 120, 121, 122, 123, 124, 125, 126, 127, 128, 129, 130, 131, 132, 133] a a1 := by rw [qa1]; exact k0.put (by decide) _
  have e1_10 := Ev.oth qa1 (by decide) h10
  have e1_0 := Ev.oth qa1 (by decide) h0
  have e1_14 := Ev.oth qa1 (by decide) h14
  have e1_9 := Ev.oth qa1 (by decide) h9
  have e1_117 := Ev.sam qa1 (by rw [k0.1, hsz]; decide)
  rw [← qa1]
  clear qa1 
  refine pure_ (i := 1) (N := some 118) (v := .int .i64 (k : Int)) #[true, true, false, false, false, false, false, false, false, false, false, false, false, false, false, false, false, false] (Rg.of hops (Rg.atS Rg.at0)) rfl (by kernel_rfl) (fun c _ _ h => hP c _ _ _ (by rfl) h) (Or.inl ⟨Ev.wanted rfl, fun w_ => ?_⟩) rfl ?_
  · unfold execOp
    generalize a1.eval = ev at *
    go_simp
  obtain ⟨a2, qa2⟩ : ∃ z_, z_ = a1.put (some 118) (.int .i64 (k : Int)) := ⟨_, rfl⟩
  have k2 : Ev.Stay [9, 117, 118, 119, 120, 121, 122, 123, 124, 125, 126, 127, 128, 129, 130, 131, 132, 133] a a2 := by rw [qa2]; exact k1.put (by decide) _
  have e2_10 := Ev.oth qa2 (by decide) e1_10
  have e2_0 := Ev.oth qa2 (by decide) e1_0
  have e2_14 := Ev.oth qa2 (by decide) e1_14
  have e2_9 := Ev.oth qa2 (by decide) e1_9
  have e2_117 := Ev.oth qa2 (by decide) e1_117
  have e2_118 := Ev.sam qa2 (by rw [k1.1, hsz]; decide)
  rw [← qa2]
  clear qa2 e1_10 e1_0 e1_14 e1_9 e1_117
  refine pure_ (i := 2) (N := some 119) (v := .int .i64 ((k + 1 : Nat) : Int)) #[true, true, true, false, false, false, false, false, false, false, false, false, false, false, false, false, false, false] (Rg.of hops (Rg.atS (Rg.atS Rg.at0))) rfl (by kernel_rfl) (fun c _ _ h => hP c _ _ _ (by rfl) h) (Or.inl ⟨Ev.wanted rfl, fun w_ => ?_⟩) rfl ?_
  · have ec0 : a2.eval (.const (.int .i64 (1))) = .int .i64 (1) := rfl
    unfold execOp
    generalize a2.eval = ev at *
    (go_simp; exact wr (by omega) (by omega))
  obtain ⟨a3, qa3⟩ : ∃ z_, z_ = a2.put (some 119) (.int .i64 ((k + 1 : Nat) : Int)) := ⟨_, rfl⟩
  have k3 : Ev.Stay [9, 117, 118, 119, 120, 121, 122, 123, 124, 125, 126, 127, 128, 129, 130, 131, 132, 133] a a3 := by rw [qa3]; exact k2.put (by decide) _
  have e3_10 := Ev.oth qa3 (by decide) e2_10
  have e3_0 := Ev.oth qa3 (by decide) e2_0
  have e3_14 := Ev.oth qa3 (by decide) e2_14
  have e3_9 := Ev.oth qa3 (by decide) e2_9
  have e3_117 := Ev.oth qa3 (by decide) e2_117
  have e3_118 := Ev.oth qa3 (by decide) e2_118
  have e3_119 := Ev.sam qa3 (by rw [k2.1, hsz]; decide)
  rw [← qa3]
  clear qa3 e2_10 e2_0 e2_14 e2_9 e2_117 e2_118
  clear e3_118
  refine pure_ (i := 3) (N := some 120) (v := .int .i64 (t : Int)) #[true, true, true, true, false, false, false, false, false, false, false, false, false, false, false, false, false, false] (Rg.of hops (Rg.atS (Rg.atS (Rg.atS Rg.at0)))) rfl (by kernel_rfl) (fun c _ _ h => hP c _ _ _ (by rfl) h) (Or.inl ⟨Ev.wanted rfl, fun w_ => ?_⟩) rfl ?_
  · unfold execOp
    generalize a3.eval = ev at *
    go_simp
  obtain ⟨a4, qa4⟩ : ∃ z_, z_ = a3.put (some 120) (.int .i64 (t : Int)) := ⟨_, rfl⟩
  have k4 : Ev.Stay [9, 117, 118, 119, 120, 121, 122, 123, 124, 125, 126, 127, 128, 129, 130, 131, 132, 133] a a4 := by rw [qa4]; exact k3.put (by decide) _
  have e4_10 := Ev.oth qa4 (by decide) e3_10
  have e4_0 := Ev.oth qa4 (by decide) e3_0
  have e4_14 := Ev.oth qa4 (by decide) e3_14
  have e4_9 := Ev.oth qa4 (by decide) e3_9
  have e4_117 := Ev.oth qa4 (by decide) e3_117
  have e4_119 := Ev.oth qa4 (by decide) e3_119
  have e4_120 := Ev.sam qa4 (by rw [k3.1, hsz]; decide)
  rw [← qa4]
  clear qa4 e3_10 e3_0 e3_14 e3_9 e3_117 e3_119
  refine pure_ (i := 4) (N := some 121) (v := .pointer (some ⟨B, (k + 1) * 4, none⟩)) #[true, true, true, true, true, false, false, false, false, false, false, false, false, false, false, false, false, false] (Rg.of hops (Rg.atS (Rg.atS (Rg.atS (Rg.atS Rg.at0))))) rfl (by kernel_rfl) (fun c _ _ h => hP c _ _ _ (by rfl) h) (Or.inl ⟨Ev.wanted rfl, fun w_ => ?_⟩) rfl ?_
  · have lk_ : (k + 1 : Int) < 4 := by omega
    have lk0_ : (0 : Int) ≤ (k + 1 : Int) := by omega
    unfold execOp
    generalize a4.eval = ev at *
    go_simp
  obtain ⟨a5, qa5⟩ : ∃ z_, z_ = a4.put (some 121) (.pointer (some ⟨B, (k + 1) * 4, none⟩)) := ⟨_, rfl⟩
  have k5 : Ev.Stay [9, 117, 118, 119, 120, 121, 122, 123, 124, 125, 126, 127, 128, 129, 130, 131, 132, 133] a a5 := by rw [qa5]; exact k4.put (by decide) _
  have e5_10 := Ev.oth qa5 (by decide) e4_10
  have e5_0 := Ev.oth qa5 (by decide) e4_0
  have e5_14 := Ev.oth qa5 (by decide) e4_14
  have e5_9 := Ev.oth qa5 (by decide) e4_9
  have e5_117 := Ev.oth qa5 (by decide) e4_117
  have e5_119 := Ev.oth qa5 (by decide) e4_119
  have e5_120 := Ev.oth qa5 (by decide) e4_120
  have e5_121 := Ev.sam qa5 (by rw [k4.1, hsz]; decide)
  rw [← qa5]
  clear qa5 e4_10 e4_0 e4_14 e4_9 e4_117 e4_119 e4_120
  clear e5_119
  refine pure_ (i := 5) (N := some 122) (v := .pointer (some ⟨B, (k + 1) * 4 + t, none⟩)) #[true, true, true, true, true, true, false, false, false, false, false, false, false, false, false, false, false, false] (Rg.of hops (Rg.atS (Rg.atS (Rg.atS (Rg.atS (Rg.atS Rg.at0)))))) rfl (by kernel_rfl) (fun c _ _ h => hP c _ _ _ (by rfl) h) (Or.inl ⟨Ev.wanted rfl, fun w_ => ?_⟩) rfl ?_
  · have lk_ : (t : Int) < 4 := by omega
    have lk0_ : (0 : Int) ≤ (t : Int) := by omega
    unfold execOp
    generalize a5.eval = ev at *
    go_simp
  obtain ⟨a6, qa6⟩ : ∃ z_, z_ = a5.put (some 122) (.pointer (some ⟨B, (k + 1) * 4 + t, none⟩)) := ⟨_, rfl⟩
  have k6 : Ev.Stay [9, 117, 118, 119, 120, 121, 122, 123, 124, 125, 126, 127, 128, 129, 130, 131, 132, 133] a a6 := by rw [qa6]; exact k5.put (by decide) _
  have e6_10 := Ev.oth qa6 (by decide) e5_10
  have e6_0 := Ev.oth qa6 (by decide) e5_0
  have e6_14 := Ev.oth qa6 (by decide) e5_14
  have e6_9 := Ev.oth qa6 (by decide) e5_9
  have e6_117 := Ev.oth qa6 (by decide) e5_117
  have e6_120 := Ev.oth qa6 (by decide) e5_120
  have e6_121 := Ev.oth qa6 (by decide) e5_121
  have e6_122 := Ev.sam qa6 (by rw [k5.1, hsz]; decide)
  rw [← qa6]
  clear qa6 e5_10 e5_0 e5_14 e5_9 e5_117 e5_120 e5_121
  clear e6_121
  clear e6_120
  refine take_ (i := 6) (N := some 123) (v := .int .i64 (G ((k + 1) * 4 + t))) #[true, true, true, true, true, true, true, false, false, false, false, false, false, false, false, false, false, false] (Rg.of hops (Rg.atS (Rg.atS (Rg.atS (Rg.atS (Rg.atS (Rg.atS Rg.at0))))))) rfl (by kernel_rfl) (fun c _ _ h => hP c _ _ _ (by rfl) h) (Ev.loadW (Ev.wanted rfl) rfl e6_122 (fun w hw => Ev.load3 (arr_cell hw (by omega)))) hHeld rfl ?_
  obtain ⟨a7, qa7⟩ : ∃ z_, z_ = a6.put (some 123) (.int .i64 (G ((k + 1) * 4 + t))) := ⟨_, rfl⟩
  have k7 : Ev.Stay [9, 117, 118, 119, 120, 121, 122, 123, 124, 125, 126, 127, 128, 129, 130, 131, 132, 133] a a7 := by rw [qa7]; exact k6.put (by decide) _
  have e7_10 := Ev.oth qa7 (by decide) e6_10
  have e7_0 := Ev.oth qa7 (by decide) e6_0
  have e7_14 := Ev.oth qa7 (by decide) e6_14
  have e7_9 := Ev.oth qa7 (by decide) e6_9
  have e7_117 := Ev.oth qa7 (by decide) e6_117
  have e7_122 := Ev.oth qa7 (by decide) e6_122
  have e7_123 := Ev.sam qa7 (by rw [k6.1, hsz]; decide)
  rw [← qa7]
  clear qa7 e6_10 e6_0 e6_14 e6_9 e6_117 e6_122
  clear e7_122
  refine pure_ (i := 7) (N := some 124) (v := .int .i64 (k : Int)) #[true, true, true, true, true, true, true, true, false, false, false, false, false, false, false, false, false, false] (Rg.of hops (Rg.atS (Rg.atS (Rg.atS (Rg.atS (Rg.atS (Rg.atS (Rg.atS Rg.at0)))))))) rfl (by kernel_rfl) (fun c _ _ h => hP c _ _ _ (by rfl) h) (Or.inl ⟨Ev.wanted rfl, fun w_ => ?_⟩) rfl ?_
  · unfold execOp
    generalize a7.eval = ev at *
    go_simp
  obtain ⟨a8, qa8⟩ : ∃ z_, z_ = a7.put (some 124) (.int .i64 (k : Int)) := ⟨_, rfl⟩
  have k8 : Ev.Stay [9, 117, 118, 119, 120, 121, 122, 123, 124, 125, 126, 127, 128, 129, 130, 131, 132, 133] a a8 := by rw [qa8]; exact k7.put (by decide) _
  have e8_10 := Ev.oth qa8 (by decide) e7_10
  have e8_0 := Ev.oth qa8 (by decide) e7_0
  have e8_14 := Ev.oth qa8 (by decide) e7_14
  have e8_9 := Ev.oth qa8 (by decide) e7_9
  have e8_117 := Ev.oth qa8 (by decide) e7_117
  have e8_123 := Ev.oth qa8 (by decide) e7_123
  have e8_124 := Ev.sam qa8 (by rw [k7.1, hsz]; decide)
  rw [← qa8]
  clear qa8 e7_10 e7_0 e7_14 e7_9 e7_117 e7_123
  refine pure_ (i := 8) (N := some 125) (v := .int .i64 (t : Int)) #[true, true, true, true, true, true, true, true, true, false, false, false, false, false, false, false, false, false] (Rg.of hops (Rg.atS (Rg.atS (Rg.atS (Rg.atS (Rg.atS (Rg.atS (Rg.atS (Rg.atS Rg.at0))))))))) rfl (by kernel_rfl) (fun c _ _ h => hP c _ _ _ (by rfl) h) (Or.inl ⟨Ev.wanted rfl, fun w_ => ?_⟩) rfl ?_
  · unfold execOp
    generalize a8.eval = ev at *
    go_simp
  obtain ⟨a9, qa9⟩ : ∃ z_, z_ = a8.put (some 125) (.int .i64 (t : Int)) := ⟨_, rfl⟩
  have k9 : Ev.Stay [9, 117, 118, 119, 120, 121, 122, 123, 124, 125, 126, 127, 128, 129, 130, 131, 132, 133] a a9 := by rw [qa9]; exact k8.put (by decide) _
  have e9_10 := Ev.oth qa9 (by decide) e8_10
  have e9_0 := Ev.oth qa9 (by decide) e8_0
  have e9_14 := Ev.oth qa9 (by decide) e8_14
  have e9_9 := Ev.oth qa9 (by decide) e8_9
  have e9_117 := Ev.oth qa9 (by decide) e8_117
  have e9_123 := Ev.oth qa9 (by decide) e8_123
  have e9_124 := Ev.oth qa9 (by decide) e8_124
  have e9_125 := Ev.sam qa9 (by rw [k8.1, hsz]; decide)
  rw [← qa9]
  clear qa9 e8_10 e8_0 e8_14 e8_9 e8_117 e8_123 e8_124
  refine pure_ (i := 9) (N := some 126) (v := .pointer (some ⟨B, k * 4, none⟩)) #[true, true, true, true, true, true, true, true, true, true, false, false, false, false, false, false, false, false] (Rg.of hops (Rg.atS (Rg.atS (Rg.atS (Rg.atS (Rg.atS (Rg.atS (Rg.atS (Rg.atS (Rg.atS Rg.at0)))))))))) rfl (by kernel_rfl) (fun c _ _ h => hP c _ _ _ (by rfl) h) (Or.inl ⟨Ev.wanted rfl, fun w_ => ?_⟩) rfl ?_
  · have lk_ : (k : Int) < 4 := by omega
    have lk0_ : (0 : Int) ≤ (k : Int) := by omega
    unfold execOp
    generalize a9.eval = ev at *
    go_simp
  obtain ⟨a10, qa10⟩ : ∃ z_, z_ = a9.put (some 126) (.pointer (some ⟨B, k * 4, none⟩)) := ⟨_, rfl⟩
  have k10 : Ev.Stay [9, 117, 118, 119, 120, 121, 122, 123, 124, 125, 126, 127, 128, 129, 130, 131, 132, 133] a a10 := by rw [qa10]; exact k9.put (by decide) _
  have e10_10 := Ev.oth qa10 (by decide) e9_10
  have e10_0 := Ev.oth qa10 (by decide) e9_0
  have e10_14 := Ev.oth qa10 (by decide) e9_14
  have e10_9 := Ev.oth qa10 (by decide) e9_9
  have e10_117 := Ev.oth qa10 (by decide) e9_117
  have e10_123 := Ev.oth qa10 (by decide) e9_123
  have e10_124 := Ev.oth qa10 (by decide) e9_124
  have e10_125 := Ev.oth qa10 (by decide) e9_125
  have e10_126 := Ev.sam qa10 (by rw [k9.1, hsz]; decide)
  rw [← qa10]
  clear qa10 e9_10 e9_0 e9_14 e9_9 e9_117 e9_123 e9_124 e9_125
  clear e10_124
  refine pure_ (i := 10) (N := some 127) (v := .pointer (some ⟨B, k * 4 + t, none⟩)) #[true, true, true, true, true, true, true, true, true, true, true, false, false, false, false, false, false, false] (Rg.of hops (Rg.atS (Rg.atS (Rg.atS (Rg.atS (Rg.atS (Rg.atS (Rg.atS (Rg.atS (Rg.atS (Rg.atS Rg.at0))))))))))) rfl (by kernel_rfl) (fun c _ _ h => hP c _ _ _ (by rfl) h) (Or.inl ⟨Ev.wanted rfl, fun w_ => ?_⟩) rfl ?_
  · have lk_ : (t : Int) < 4 := by omega
    have lk0_ : (0 : Int) ≤ (t : Int) := by omega
    unfold execOp
    generalize a10.eval = ev at *
    go_simp
  obtain ⟨a11, qa11⟩ : ∃ z_, z_ = a10.put (some 127) (.pointer (some ⟨B, k * 4 + t, none⟩)) := ⟨_, rfl⟩
  have k11 : Ev.Stay [9, 117, 118, 119, 120, 121, 122, 123, 124, 125, 126, 127, 128, 129, 130, 131, 132, 133] a a11 := by rw [qa11]; exact k10.put (by decide) _
  have e11_10 := Ev.oth qa11 (by decide) e10_10
  have e11_0 := Ev.oth qa11 (by decide) e10_0
  have e11_14 := Ev.oth qa11 (by decide) e10_14
  have e11_9 := Ev.oth qa11 (by decide) e10_9
  have e11_117 := Ev.oth qa11 (by decide) e10_117
  have e11_123 := Ev.oth qa11 (by decide) e10_123
  have e11_125 := Ev.oth qa11 (by decide) e10_125
  have e11_126 := Ev.oth qa11 (by decide) e10_126
  have e11_127 := Ev.sam qa11 (by rw [k10.1, hsz]; decide)
  rw [← qa11]
  clear qa11 e10_10 e10_0 e10_14 e10_9 e10_117 e10_123 e10_125 e10_126
  clear e11_126
  clear e11_125
  refine take_ (i := 11) (N := some 128) (v := .int .i64 (G (k * 4 + t))) #[true, true, true, true, true, true, true, true, true, true, true, true, false, false, false, false, false, false] (Rg.of hops (Rg.atS (Rg.atS (Rg.atS (Rg.atS (Rg.atS (Rg.atS (Rg.atS (Rg.atS (Rg.atS (Rg.atS (Rg.atS Rg.at0)))))))))))) rfl (by kernel_rfl) (fun c _ _ h => hP c _ _ _ (by rfl) h) (Ev.loadW (Ev.wanted rfl) rfl e11_127 (fun w hw => Ev.load3 (arr_cell hw (by omega)))) hHeld rfl ?_
  obtain ⟨a12, qa12⟩ : ∃ z_, z_ = a11.put (some 128) (.int .i64 (G (k * 4 + t))) := ⟨_, rfl⟩
  have k12 : Ev.Stay [9, 117, 118, 119, 120, 121, 122, 123, 124, 125, 126, 127, 128, 129, 130, 131, 132, 133] a a12 := by rw [qa12]; exact k11.put (by decide) _
  have e12_10 := Ev.oth qa12 (by decide) e11_10
  have e12_0 := Ev.oth qa12 (by decide) e11_0
  have e12_14 := Ev.oth qa12 (by decide) e11_14
  have e12_9 := Ev.oth qa12 (by decide) e11_9
  have e12_117 := Ev.oth qa12 (by decide) e11_117
  have e12_123 := Ev.oth qa12 (by decide) e11_123
  have e12_127 := Ev.oth qa12 (by decide) e11_127
  have e12_128 := Ev.sam qa12 (by rw [k11.1, hsz]; decide)
  rw [← qa12]
  clear qa12 e11_10 e11_0 e11_14 e11_9 e11_117 e11_123 e11_127
  clear e12_127
  refine pure_ (i := 12) (N := some 129) (v := .int .i64 (d)) #[true, true, true, true, true, true, true, true, true, true, true, true, true, false, false, false, false, false] (Rg.of hops (Rg.atS (Rg.atS (Rg.atS (Rg.atS (Rg.atS (Rg.atS (Rg.atS (Rg.atS (Rg.atS (Rg.atS (Rg.atS (Rg.atS Rg.at0))))))))))))) rfl (by kernel_rfl) (fun c _ _ h => hP c _ _ _ (by rfl) h) (Or.inl ⟨Ev.wanted rfl, fun w_ => ?_⟩) rfl ?_
  · have hd_ := hd
    have d1 := hdb.1
    have d2 := hdb.2
    unfold execOp
    generalize a12.eval = ev at *
    (go_simp; exact wr (by omega) (by omega))
  obtain ⟨a13, qa13⟩ : ∃ z_, z_ = a12.put (some 129) (.int .i64 (d)) := ⟨_, rfl⟩
  have k13 : Ev.Stay [9, 117, 118, 119, 120, 121, 122, 123, 124, 125, 126, 127, 128, 129, 130, 131, 132, 133] a a13 := by rw [qa13]; exact k12.put (by decide) _
  have e13_10 := Ev.oth qa13 (by decide) e12_10
  have e13_0 := Ev.oth qa13 (by decide) e12_0
  have e13_14 := Ev.oth qa13 (by decide) e12_14
  have e13_9 := Ev.oth qa13 (by decide) e12_9
  have e13_117 := Ev.oth qa13 (by decide) e12_117
  have e13_123 := Ev.oth qa13 (by decide) e12_123
  have e13_128 := Ev.oth qa13 (by decide) e12_128
  have e13_129 := Ev.sam qa13 (by rw [k12.1, hsz]; decide)
  rw [← qa13]
  clear qa13 e12_10 e12_0 e12_14 e12_9 e12_117 e12_123 e12_128
  clear e13_123
  clear e13_128
  refine pure_ (i := 13) (N := some 130) (v := .int .i64 (d)) #[true, true, true, true, true, true, true, true, true, true, true, true, true, true, false, false, false, false] (Rg.of hops (Rg.atS (Rg.atS (Rg.atS (Rg.atS (Rg.atS (Rg.atS (Rg.atS (Rg.atS (Rg.atS (Rg.atS (Rg.atS (Rg.atS (Rg.atS Rg.at0)))))))))))))) rfl (by kernel_rfl) (fun c _ _ h => hP c _ _ _ (by rfl) h) (Or.inl ⟨Ev.wanted rfl, fun w_ => ?_⟩) rfl ?_
  · have ec0 : a13.eval (.const (.int .i64 (1))) = .int .i64 (1) := rfl
    have hd1_ := hd1
    unfold execOp
    generalize a13.eval = ev at *
    go_simp
  obtain ⟨a14, qa14⟩ : ∃ z_, z_ = a13.put (some 130) (.int .i64 (d)) := ⟨_, rfl⟩
  have k14 : Ev.Stay [9, 117, 118, 119, 120, 121, 122, 123, 124, 125, 126, 127, 128, 129, 130, 131, 132, 133] a a14 := by rw [qa14]; exact k13.put (by decide) _
  have e14_10 := Ev.oth qa14 (by decide) e13_10
  have e14_0 := Ev.oth qa14 (by decide) e13_0
  have e14_14 := Ev.oth qa14 (by decide) e13_14
  have e14_9 := Ev.oth qa14 (by decide) e13_9
  have e14_117 := Ev.oth qa14 (by decide) e13_117
  have e14_129 := Ev.oth qa14 (by decide) e13_129
  have e14_130 := Ev.sam qa14 (by rw [k13.1, hsz]; decide)
  rw [← qa14]
  clear qa14 e13_10 e13_0 e13_14 e13_9 e13_117 e13_129
  clear e14_129
  refine pure_ (i := 14) (N := some 131) (v := .int .i64 (k : Int)) #[true, true, true, true, true, true, true, true, true, true, true, true, true, true, true, false, false, false] (Rg.of hops (Rg.atS (Rg.atS (Rg.atS (Rg.atS (Rg.atS (Rg.atS (Rg.atS (Rg.atS (Rg.atS (Rg.atS (Rg.atS (Rg.atS (Rg.atS (Rg.atS Rg.at0))))))))))))))) rfl (by kernel_rfl) (fun c _ _ h => hP c _ _ _ (by rfl) h) (Or.inl ⟨Ev.wanted rfl, fun w_ => ?_⟩) rfl ?_
  · unfold execOp
    generalize a14.eval = ev at *
    go_simp
  obtain ⟨a15, qa15⟩ : ∃ z_, z_ = a14.put (some 131) (.int .i64 (k : Int)) := ⟨_, rfl⟩
  have k15 : Ev.Stay [9, 117, 118, 119, 120, 121, 122, 123, 124, 125, 126, 127, 128, 129, 130, 131, 132, 133] a a15 := by rw [qa15]; exact k14.put (by decide) _
  have e15_10 := Ev.oth qa15 (by decide) e14_10
  have e15_0 := Ev.oth qa15 (by decide) e14_0
  have e15_14 := Ev.oth qa15 (by decide) e14_14
  have e15_9 := Ev.oth qa15 (by decide) e14_9
  have e15_117 := Ev.oth qa15 (by decide) e14_117
  have e15_130 := Ev.oth qa15 (by decide) e14_130
  have e15_131 := Ev.sam qa15 (by rw [k14.1, hsz]; decide)
  rw [← qa15]
  clear qa15 e14_10 e14_0 e14_14 e14_9 e14_117 e14_130
  refine pure_ (i := 15) (N := some 132) (v := .int .i64 (e)) #[true, true, true, true, true, true, true, true, true, true, true, true, true, true, true, true, false, false] (Rg.of hops (Rg.atS (Rg.atS (Rg.atS (Rg.atS (Rg.atS (Rg.atS (Rg.atS (Rg.atS (Rg.atS (Rg.atS (Rg.atS (Rg.atS (Rg.atS (Rg.atS (Rg.atS Rg.at0)))))))))))))))) rfl (by kernel_rfl) (fun c _ _ h => hP c _ _ _ (by rfl) h) (Or.inl ⟨Ev.wanted rfl, fun w_ => ?_⟩) rfl ?_
  · have lk_ : (k : Int) < 4 := by omega
    have lk0_ : (0 : Int) ≤ (k : Int) := by omega
    have hs_ := hs
    unfold execOp
    generalize a15.eval = ev at *
    go_simp
  obtain ⟨a16, qa16⟩ : ∃ z_, z_ = a15.put (some 132) (.int .i64 (e)) := ⟨_, rfl⟩
  have k16 : Ev.Stay [9, 117, 118, 119, 120, 121, 122, 123, 124, 125, 126, 127, 128, 129, 130, 131, 132, 133] a a16 := by rw [qa16]; exact k15.put (by decide) _
  have e16_10 := Ev.oth qa16 (by decide) e15_10
  have e16_0 := Ev.oth qa16 (by decide) e15_0
  have e16_14 := Ev.oth qa16 (by decide) e15_14
  have e16_9 := Ev.oth qa16 (by decide) e15_9
  have e16_117 := Ev.oth qa16 (by decide) e15_117
  have e16_130 := Ev.oth qa16 (by decide) e15_130
  have e16_131 := Ev.oth qa16 (by decide) e15_131
  have e16_132 := Ev.sam qa16 (by rw [k15.1, hsz]; decide)
  rw [← qa16]
  clear qa16 e15_10 e15_0 e15_14 e15_9 e15_117 e15_130 e15_131
  clear e16_130
  clear e16_131
  refine pure_ (i := 16) (N := some 133) (v := .int .i64 (x2)) #[true, true, true, true, true, true, true, true, true, true, true, true, true, true, true, true, true, false] (Rg.of hops (Rg.atS (Rg.atS (Rg.atS (Rg.atS (Rg.atS (Rg.atS (Rg.atS (Rg.atS (Rg.atS (Rg.atS (Rg.atS (Rg.atS (Rg.atS (Rg.atS (Rg.atS (Rg.atS Rg.at0))))))))))))))))) rfl (by kernel_rfl) (fun c _ _ h => hP c _ _ _ (by rfl) h) (Or.inl ⟨Ev.wanted rfl, fun w_ => ?_⟩) rfl ?_
  · have ho_ := ho
    unfold execOp
    generalize a16.eval = ev at *
    go_simp
  obtain ⟨a17, qa17⟩ : ∃ z_, z_ = a16.put (some 133) (.int .i64 (x2)) := ⟨_, rfl⟩
  have k17 : Ev.Stay [9, 117, 118, 119, 120, 121, 122, 123, 124, 125, 126, 127, 128, 129, 130, 131, 132, 133] a a17 := by rw [qa17]; exact k16.put (by decide) _
  have e17_10 := Ev.oth qa17 (by decide) e16_10
  have e17_0 := Ev.oth qa17 (by decide) e16_0
  have e17_14 := Ev.oth qa17 (by decide) e16_14
  have e17_9 := Ev.oth qa17 (by decide) e16_9
  have e17_117 := Ev.oth qa17 (by decide) e16_117
  have e17_132 := Ev.oth qa17 (by decide) e16_132
  have e17_133 := Ev.sam qa17 (by rw [k16.1, hsz]; decide)
  rw [← qa17]
  clear qa17 e16_10 e16_0 e16_14 e16_9 e16_117 e16_132
  clear e17_117
  clear e17_132
  refine pure_ (i := 17) (N := some 9) (v := .int .i64 (x2)) #[true, true, true, true, true, true, true, true, true, true, true, true, true, true, true, true, true, true] (Rg.of hops (Rg.atS (Rg.atS (Rg.atS (Rg.atS (Rg.atS (Rg.atS (Rg.atS (Rg.atS (Rg.atS (Rg.atS (Rg.atS (Rg.atS (Rg.atS (Rg.atS (Rg.atS (Rg.atS (Rg.atS Rg.at0)))))))))))))))))) rfl (by kernel_rfl) (fun c _ _ h => hP c _ _ _ (by rfl) h) (Or.inl ⟨Ev.wanted rfl, fun w_ => ?_⟩) rfl ?_
  · unfold execOp
    generalize a17.eval = ev at *
    go_simp
  obtain ⟨a18, qa18⟩ : ∃ z_, z_ = a17.put (some 9) (.int .i64 (x2)) := ⟨_, rfl⟩
  have k18 : Ev.Stay [9, 117, 118, 119, 120, 121, 122, 123, 124, 125, 126, 127, 128, 129, 130, 131, 132, 133] a a18 := by rw [qa18]; exact k17.put (by decide) _
  have e18_10 := Ev.oth qa18 (by decide) e17_10
  have e18_0 := Ev.oth qa18 (by decide) e17_0
  have e18_14 := Ev.oth qa18 (by decide) e17_14
  have e18_133 := Ev.oth qa18 (by decide) e17_133
  have e18_9 := Ev.sam qa18 (by rw [k17.1, hsz]; decide)
  rw [← qa18]
  clear qa18 e17_10 e17_0 e17_14 e17_9 e17_133
  refine done_ (by kernel_rfl) ?_
  exact hQ _ k18 e18_9
set_option maxHeartbeats 2000000 in
theorem Rg.s0 {id : Nat} {Q : Exit → Act → World → Prop} {a : Act} {W : World} 
    (hsz : a.tmps.size = 137)  
    (hQ : ∀ a', Ev.Stay [8, 9] a a' → a'.eval (.tmp 8) = .int .i64 (0) → a'.eval (.tmp 9) = .int .i64 (0) → Q .normal a' (W)) : (Code.region id (Rg.ops 33 0) false).wp Try.prog Q a W := by
  refine wp_region_list ?_
  show wpList _ _ _ (_ :: _ :: []) _ _
  have k0 : Ev.Stay [8, 9] a a := Ev.Stay.refl [8, 9] a
  refine Ev.pv (N := 8) (v := .int .i64 (0)) (W' := W) ?_ rfl rfl ?_
  · have ec0 : a.eval (.const (.int .i64 (0))) = .int .i64 (0) := rfl
    unfold execOp
    generalize a.eval = ev at *
    go_simp
  obtain ⟨a1, qa1⟩ : ∃ z_, z_ = a.put (some 8) (.int .i64 (0)) := ⟨_, rfl⟩
  have k1 : Ev.Stay [8, 9] a a1 := by rw [qa1]; exact k0.put (by decide) _
  have e1_8 := Ev.sam qa1 (by rw [k0.1, hsz]; decide)
  rw [← qa1]
  clear qa1 
  refine Ev.pv (N := 9) (v := .int .i64 (0)) (W' := W) ?_ rfl rfl ?_
  · have ec0 : a1.eval (.const (.int .i64 (0))) = .int .i64 (0) := rfl
    unfold execOp
    generalize a1.eval = ev at *
    go_simp
  obtain ⟨a2, qa2⟩ : ∃ z_, z_ = a1.put (some 9) (.int .i64 (0)) := ⟨_, rfl⟩
  have k2 : Ev.Stay [8, 9] a a2 := by rw [qa2]; exact k1.put (by decide) _
  have e2_8 := Ev.oth qa2 (by decide) e1_8
  have e2_9 := Ev.sam qa2 (by rw [k1.1, hsz]; decide)
  rw [← qa2]
  clear qa2 e1_8
  exact hQ _ k2 e2_8 e2_9
set_option maxHeartbeats 2000000 in
theorem Rg.s1 {id : Nat} {Q : Exit → Act → World → Prop} {a : Act} {W : World} 
    (hsz : a.tmps.size = 137)  
    (hQ : ∀ a', Ev.Stay [10] a a' → a'.eval (.tmp 10) = .pointer (some ⟨W.heap.size, 0, none⟩) → Q .normal a' (W.alloc (.cells (arr (fun _ => 0)) 81))) : (Code.region id (Rg.ops 33 1) false).wp Try.prog Q a W := by
  refine wp_region_list ?_
  show wpList _ _ _ (_ :: []) _ _
  have k0 : Ev.Stay [10] a a := Ev.Stay.refl [10] a
  refine Ev.pv (N := 10) (v := .pointer (some ⟨W.heap.size, 0, none⟩)) (W' := W.alloc (.cells (arr (fun _ => 0)) 81)) ?_ rfl rfl ?_
  · unfold execOp
    generalize a.eval = ev at *
    (go_simp; try rfl)
  obtain ⟨a1, qa1⟩ : ∃ z_, z_ = a.put (some 10) (.pointer (some ⟨W.heap.size, 0, none⟩)) := ⟨_, rfl⟩
  have k1 : Ev.Stay [10] a a1 := by rw [qa1]; exact k0.put (by decide) _
  have e1_10 := Ev.sam qa1 (by rw [k0.1, hsz]; decide)
  rw [← qa1]
  clear qa1 
  exact hQ _ k1 e1_10
set_option maxHeartbeats 2000000 in
theorem Rg.s2 {id : Nat} {Q : Exit → Act → World → Prop} {a : Act} {W : World} {t : Nat}
    (hsz : a.tmps.size = 137)  (h0 : a.eval (.tmp 0) = .int .i64 (t : Int))
    (hQ : ∀ a', Ev.Stay [15, 16] a a' → a'.eval (.tmp 15) = .int .i64 (t : Int) → a'.eval (.tmp 16) = .int .i64 (0) → Q .normal a' (W)) : (Code.region id (Rg.ops 33 2) false).wp Try.prog Q a W := by
  refine wp_region_list ?_
  show wpList _ _ _ (_ :: _ :: []) _ _
  have k0 : Ev.Stay [15, 16] a a := Ev.Stay.refl [15, 16] a
  refine Ev.pv (N := 15) (v := .int .i64 (t : Int)) (W' := W) ?_ rfl rfl ?_
  · unfold execOp
    generalize a.eval = ev at *
    go_simp
  obtain ⟨a1, qa1⟩ : ∃ z_, z_ = a.put (some 15) (.int .i64 (t : Int)) := ⟨_, rfl⟩
  have k1 : Ev.Stay [15, 16] a a1 := by rw [qa1]; exact k0.put (by decide) _
  have e1_0 := Ev.oth qa1 (by decide) h0
  have e1_15 := Ev.sam qa1 (by rw [k0.1, hsz]; decide)
  rw [← qa1]
  clear qa1 
  refine Ev.pv (N := 16) (v := .int .i64 (0)) (W' := W) ?_ rfl rfl ?_
  · have ec0 : a1.eval (.const (.int .i64 (0))) = .int .i64 (0) := rfl
    unfold execOp
    generalize a1.eval = ev at *
    go_simp
  obtain ⟨a2, qa2⟩ : ∃ z_, z_ = a1.put (some 16) (.int .i64 (0)) := ⟨_, rfl⟩
  have k2 : Ev.Stay [15, 16] a a2 := by rw [qa2]; exact k1.put (by decide) _
  have e2_0 := Ev.oth qa2 (by decide) e1_0
  have e2_15 := Ev.oth qa2 (by decide) e1_15
  have e2_16 := Ev.sam qa2 (by rw [k1.1, hsz]; decide)
  rw [← qa2]
  clear qa2 e1_0 e1_15
  exact hQ _ k2 e2_15 e2_16
set_option maxHeartbeats 2000000 in
theorem Rg.s8 {id : Nat} {Q : Exit → Act → World → Prop} {a : Act} {W : World} {t : Nat}
    (hsz : a.tmps.size = 137)  (h0 : a.eval (.tmp 0) = .int .i64 (t : Int))
    (hQ : ∀ a', Ev.Stay [46, 47] a a' → a'.eval (.tmp 46) = .int .i64 (t : Int) → a'.eval (.tmp 47) = .int .i64 (0) → Q .normal a' (W)) : (Code.region id (Rg.ops 33 8) false).wp Try.prog Q a W := by
  refine wp_region_list ?_
  show wpList _ _ _ (_ :: _ :: []) _ _
  have k0 : Ev.Stay [46, 47] a a := Ev.Stay.refl [46, 47] a
  refine Ev.pv (N := 46) (v := .int .i64 (t : Int)) (W' := W) ?_ rfl rfl ?_
  · unfold execOp
    generalize a.eval = ev at *
    go_simp
  obtain ⟨a1, qa1⟩ : ∃ z_, z_ = a.put (some 46) (.int .i64 (t : Int)) := ⟨_, rfl⟩
  have k1 : Ev.Stay [46, 47] a a1 := by rw [qa1]; exact k0.put (by decide) _
  have e1_0 := Ev.oth qa1 (by decide) h0
  have e1_46 := Ev.sam qa1 (by rw [k0.1, hsz]; decide)
  rw [← qa1]
  clear qa1 
  refine Ev.pv (N := 47) (v := .int .i64 (0)) (W' := W) ?_ rfl rfl ?_
  · have ec0 : a1.eval (.const (.int .i64 (0))) = .int .i64 (0) := rfl
    unfold execOp
    generalize a1.eval = ev at *
    go_simp
  obtain ⟨a2, qa2⟩ : ∃ z_, z_ = a1.put (some 47) (.int .i64 (0)) := ⟨_, rfl⟩
  have k2 : Ev.Stay [46, 47] a a2 := by rw [qa2]; exact k1.put (by decide) _
  have e2_0 := Ev.oth qa2 (by decide) e1_0
  have e2_46 := Ev.oth qa2 (by decide) e1_46
  have e2_47 := Ev.sam qa2 (by rw [k1.1, hsz]; decide)
  rw [← qa2]
  clear qa2 e1_0 e1_46
  exact hQ _ k2 e2_46 e2_47
set_option maxHeartbeats 2000000 in
theorem Rg.s11 {id : Nat} {Q : Exit → Act → World → Prop} {a : Act} {W : World} {t : Nat}
    (hsz : a.tmps.size = 137)  (h0 : a.eval (.tmp 0) = .int .i64 (t : Int))
    (hQ : ∀ a', Ev.Stay [50, 51] a a' → a'.eval (.tmp 50) = .int .i64 (t : Int) → a'.eval (.tmp 51) = .int .i64 (0) → Q .normal a' (W)) : (Code.region id (Rg.ops 33 11) false).wp Try.prog Q a W := by
  refine wp_region_list ?_
  show wpList _ _ _ (_ :: _ :: []) _ _
  have k0 : Ev.Stay [50, 51] a a := Ev.Stay.refl [50, 51] a
  refine Ev.pv (N := 50) (v := .int .i64 (t : Int)) (W' := W) ?_ rfl rfl ?_
  · unfold execOp
    generalize a.eval = ev at *
    go_simp
  obtain ⟨a1, qa1⟩ : ∃ z_, z_ = a.put (some 50) (.int .i64 (t : Int)) := ⟨_, rfl⟩
  have k1 : Ev.Stay [50, 51] a a1 := by rw [qa1]; exact k0.put (by decide) _
  have e1_0 := Ev.oth qa1 (by decide) h0
  have e1_50 := Ev.sam qa1 (by rw [k0.1, hsz]; decide)
  rw [← qa1]
  clear qa1 
  refine Ev.pv (N := 51) (v := .int .i64 (0)) (W' := W) ?_ rfl rfl ?_
  · have ec0 : a1.eval (.const (.int .i64 (0))) = .int .i64 (0) := rfl
    unfold execOp
    generalize a1.eval = ev at *
    go_simp
  obtain ⟨a2, qa2⟩ : ∃ z_, z_ = a1.put (some 51) (.int .i64 (0)) := ⟨_, rfl⟩
  have k2 : Ev.Stay [50, 51] a a2 := by rw [qa2]; exact k1.put (by decide) _
  have e2_0 := Ev.oth qa2 (by decide) e1_0
  have e2_50 := Ev.oth qa2 (by decide) e1_50
  have e2_51 := Ev.sam qa2 (by rw [k1.1, hsz]; decide)
  rw [← qa2]
  clear qa2 e1_0 e1_50
  exact hQ _ k2 e2_50 e2_51
set_option maxHeartbeats 2000000 in
theorem Rg.s19 {id : Nat} {Q : Exit → Act → World → Prop} {a : Act} {W : World} {t : Nat}
    (hsz : a.tmps.size = 137)  (h0 : a.eval (.tmp 0) = .int .i64 (t : Int))
    (hQ : ∀ a', Ev.Stay [96, 97] a a' → a'.eval (.tmp 96) = .int .i64 (t : Int) → a'.eval (.tmp 97) = .int .i64 (0) → Q .normal a' (W)) : (Code.region id (Rg.ops 33 19) false).wp Try.prog Q a W := by
  refine wp_region_list ?_
  show wpList _ _ _ (_ :: _ :: []) _ _
  have k0 : Ev.Stay [96, 97] a a := Ev.Stay.refl [96, 97] a
  refine Ev.pv (N := 96) (v := .int .i64 (t : Int)) (W' := W) ?_ rfl rfl ?_
  · unfold execOp
    generalize a.eval = ev at *
    go_simp
  obtain ⟨a1, qa1⟩ : ∃ z_, z_ = a.put (some 96) (.int .i64 (t : Int)) := ⟨_, rfl⟩
  have k1 : Ev.Stay [96, 97] a a1 := by rw [qa1]; exact k0.put (by decide) _
  have e1_0 := Ev.oth qa1 (by decide) h0
  have e1_96 := Ev.sam qa1 (by rw [k0.1, hsz]; decide)
  rw [← qa1]
  clear qa1 
  refine Ev.pv (N := 97) (v := .int .i64 (0)) (W' := W) ?_ rfl rfl ?_
  · have ec0 : a1.eval (.const (.int .i64 (0))) = .int .i64 (0) := rfl
    unfold execOp
    generalize a1.eval = ev at *
    go_simp
  obtain ⟨a2, qa2⟩ : ∃ z_, z_ = a1.put (some 97) (.int .i64 (0)) := ⟨_, rfl⟩
  have k2 : Ev.Stay [96, 97] a a2 := by rw [qa2]; exact k1.put (by decide) _
  have e2_0 := Ev.oth qa2 (by decide) e1_0
  have e2_96 := Ev.oth qa2 (by decide) e1_96
  have e2_97 := Ev.sam qa2 (by rw [k1.1, hsz]; decide)
  rw [← qa2]
  clear qa2 e1_0 e1_96
  exact hQ _ k2 e2_96 e2_97
set_option maxHeartbeats 2000000 in
theorem Rg.s3 {id : Nat} {Q : Exit → Act → World → Prop} {a : Act} {W : World} {k t : Nat}
    (hsz : a.tmps.size = 137)  (h16 : a.eval (.tmp 16) = .int .i64 (k : Int)) (h15 : a.eval (.tmp 15) = .int .i64 (t : Int))
    (hQ : ∀ a', Ev.Stay [17] a a' → a'.eval (.tmp 17) = .bool (decide (k < t)) → Q .normal a' (W)) : (Code.region id (Rg.ops 33 3) false).wp Try.prog Q a W := by
  refine wp_region_list ?_
  show wpList _ _ _ (_ :: []) _ _
  have k0 : Ev.Stay [17] a a := Ev.Stay.refl [17] a
  refine Ev.pv (N := 17) (v := .bool (decide (k < t))) (W' := W) ?_ rfl rfl ?_
  · unfold execOp
    generalize a.eval = ev at *
    (go_simp; try (rw [Bool.eq_iff_iff]; simp))
  obtain ⟨a1, qa1⟩ : ∃ z_, z_ = a.put (some 17) (.bool (decide (k < t))) := ⟨_, rfl⟩
  have k1 : Ev.Stay [17] a a1 := by rw [qa1]; exact k0.put (by decide) _
  have e1_16 := Ev.oth qa1 (by decide) h16
  have e1_15 := Ev.oth qa1 (by decide) h15
  have e1_17 := Ev.sam qa1 (by rw [k0.1, hsz]; decide)
  rw [← qa1]
  clear qa1 
  exact hQ _ k1 e1_17
set_option maxHeartbeats 2000000 in
theorem Rg.s9 {id : Nat} {Q : Exit → Act → World → Prop} {a : Act} {W : World} {k t : Nat}
    (hsz : a.tmps.size = 137)  (h47 : a.eval (.tmp 47) = .int .i64 (k : Int)) (h46 : a.eval (.tmp 46) = .int .i64 (t : Int))
    (hQ : ∀ a', Ev.Stay [48] a a' → a'.eval (.tmp 48) = .bool (decide (k < t)) → Q .normal a' (W)) : (Code.region id (Rg.ops 33 9) false).wp Try.prog Q a W := by
  refine wp_region_list ?_
  show wpList _ _ _ (_ :: []) _ _
  have k0 : Ev.Stay [48] a a := Ev.Stay.refl [48] a
  refine Ev.pv (N := 48) (v := .bool (decide (k < t))) (W' := W) ?_ rfl rfl ?_
  · unfold execOp
    generalize a.eval = ev at *
    (go_simp; try (rw [Bool.eq_iff_iff]; simp))
  obtain ⟨a1, qa1⟩ : ∃ z_, z_ = a.put (some 48) (.bool (decide (k < t))) := ⟨_, rfl⟩
  have k1 : Ev.Stay [48] a a1 := by rw [qa1]; exact k0.put (by decide) _
  have e1_47 := Ev.oth qa1 (by decide) h47
  have e1_46 := Ev.oth qa1 (by decide) h46
  have e1_48 := Ev.sam qa1 (by rw [k0.1, hsz]; decide)
  rw [← qa1]
  clear qa1 
  exact hQ _ k1 e1_48
set_option maxHeartbeats 2000000 in
theorem Rg.s12 {id : Nat} {Q : Exit → Act → World → Prop} {a : Act} {W : World} {k t : Nat}
    (hsz : a.tmps.size = 137)  (h51 : a.eval (.tmp 51) = .int .i64 (k : Int)) (h50 : a.eval (.tmp 50) = .int .i64 (t : Int))
    (hQ : ∀ a', Ev.Stay [52] a a' → a'.eval (.tmp 52) = .bool (decide (k < t)) → Q .normal a' (W)) : (Code.region id (Rg.ops 33 12) false).wp Try.prog Q a W := by
  refine wp_region_list ?_
  show wpList _ _ _ (_ :: []) _ _
  have k0 : Ev.Stay [52] a a := Ev.Stay.refl [52] a
  refine Ev.pv (N := 52) (v := .bool (decide (k < t))) (W' := W) ?_ rfl rfl ?_
  · unfold execOp
    generalize a.eval = ev at *
    (go_simp; try (rw [Bool.eq_iff_iff]; simp))
  obtain ⟨a1, qa1⟩ : ∃ z_, z_ = a.put (some 52) (.bool (decide (k < t))) := ⟨_, rfl⟩
  have k1 : Ev.Stay [52] a a1 := by rw [qa1]; exact k0.put (by decide) _
  have e1_51 := Ev.oth qa1 (by decide) h51
  have e1_50 := Ev.oth qa1 (by decide) h50
  have e1_52 := Ev.sam qa1 (by rw [k0.1, hsz]; decide)
  rw [← qa1]
  clear qa1 
  exact hQ _ k1 e1_52
set_option maxHeartbeats 2000000 in
theorem Rg.s20 {id : Nat} {Q : Exit → Act → World → Prop} {a : Act} {W : World} {k t : Nat}
    (hsz : a.tmps.size = 137)  (h97 : a.eval (.tmp 97) = .int .i64 (k : Int)) (h96 : a.eval (.tmp 96) = .int .i64 (t : Int))
    (hQ : ∀ a', Ev.Stay [98] a a' → a'.eval (.tmp 98) = .bool (decide (k < t)) → Q .normal a' (W)) : (Code.region id (Rg.ops 33 20) false).wp Try.prog Q a W := by
  refine wp_region_list ?_
  show wpList _ _ _ (_ :: []) _ _
  have k0 : Ev.Stay [98] a a := Ev.Stay.refl [98] a
  refine Ev.pv (N := 98) (v := .bool (decide (k < t))) (W' := W) ?_ rfl rfl ?_
  · unfold execOp
    generalize a.eval = ev at *
    (go_simp; try (rw [Bool.eq_iff_iff]; simp))
  obtain ⟨a1, qa1⟩ : ∃ z_, z_ = a.put (some 98) (.bool (decide (k < t))) := ⟨_, rfl⟩
  have k1 : Ev.Stay [98] a a1 := by rw [qa1]; exact k0.put (by decide) _
  have e1_97 := Ev.oth qa1 (by decide) h97
  have e1_96 := Ev.oth qa1 (by decide) h96
  have e1_98 := Ev.sam qa1 (by rw [k0.1, hsz]; decide)
  rw [← qa1]
  clear qa1 
  exact hQ _ k1 e1_98
set_option maxHeartbeats 2000000 in
theorem Rg.s4 {id : Nat} {Q : Exit → Act → World → Prop} {a : Act} {W : World} {k : Nat}
    (hsz : a.tmps.size = 137)  (h16 : a.eval (.tmp 16) = .int .i64 (k : Int))
    (hQ : ∀ a', Ev.Stay [18, 11] a a' → a'.eval (.tmp 11) = .int .i64 (k : Int) → Q .normal a' (W)) : (Code.region id (Rg.ops 33 4) false).wp Try.prog Q a W := by
  refine wp_region_list ?_
  show wpList _ _ _ (_ :: _ :: []) _ _
  have k0 : Ev.Stay [18, 11] a a := Ev.Stay.refl [18, 11] a
  refine Ev.pv (N := 18) (v := .int .i64 (k : Int)) (W' := W) ?_ rfl rfl ?_
  · unfold execOp
    generalize a.eval = ev at *
    go_simp
  obtain ⟨a1, qa1⟩ : ∃ z_, z_ = a.put (some 18) (.int .i64 (k : Int)) := ⟨_, rfl⟩
  have k1 : Ev.Stay [18, 11] a a1 := by rw [qa1]; exact k0.put (by decide) _
  have e1_16 := Ev.oth qa1 (by decide) h16
  have e1_18 := Ev.sam qa1 (by rw [k0.1, hsz]; decide)
  rw [← qa1]
  clear qa1 
  refine Ev.pv (N := 11) (v := .int .i64 (k : Int)) (W' := W) ?_ rfl rfl ?_
  · unfold execOp
    generalize a1.eval = ev at *
    go_simp
  obtain ⟨a2, qa2⟩ : ∃ z_, z_ = a1.put (some 11) (.int .i64 (k : Int)) := ⟨_, rfl⟩
  have k2 : Ev.Stay [18, 11] a a2 := by rw [qa2]; exact k1.put (by decide) _
  have e2_16 := Ev.oth qa2 (by decide) e1_16
  have e2_18 := Ev.oth qa2 (by decide) e1_18
  have e2_11 := Ev.sam qa2 (by rw [k1.1, hsz]; decide)
  rw [← qa2]
  clear qa2 e1_16 e1_18
  exact hQ _ k2 e2_11
set_option maxHeartbeats 2000000 in
theorem Rg.s10 {id : Nat} {Q : Exit → Act → World → Prop} {a : Act} {W : World} {k : Nat}
    (hsz : a.tmps.size = 137)  (h47 : a.eval (.tmp 47) = .int .i64 (k : Int))
    (hQ : ∀ a', Ev.Stay [49, 12] a a' → a'.eval (.tmp 12) = .int .i64 (k : Int) → Q .normal a' (W)) : (Code.region id (Rg.ops 33 10) false).wp Try.prog Q a W := by
  refine wp_region_list ?_
  show wpList _ _ _ (_ :: _ :: []) _ _
  have k0 : Ev.Stay [49, 12] a a := Ev.Stay.refl [49, 12] a
  refine Ev.pv (N := 49) (v := .int .i64 (k : Int)) (W' := W) ?_ rfl rfl ?_
  · unfold execOp
    generalize a.eval = ev at *
    go_simp
  obtain ⟨a1, qa1⟩ : ∃ z_, z_ = a.put (some 49) (.int .i64 (k : Int)) := ⟨_, rfl⟩
  have k1 : Ev.Stay [49, 12] a a1 := by rw [qa1]; exact k0.put (by decide) _
  have e1_47 := Ev.oth qa1 (by decide) h47
  have e1_49 := Ev.sam qa1 (by rw [k0.1, hsz]; decide)
  rw [← qa1]
  clear qa1 
  refine Ev.pv (N := 12) (v := .int .i64 (k : Int)) (W' := W) ?_ rfl rfl ?_
  · unfold execOp
    generalize a1.eval = ev at *
    go_simp
  obtain ⟨a2, qa2⟩ : ∃ z_, z_ = a1.put (some 12) (.int .i64 (k : Int)) := ⟨_, rfl⟩
  have k2 : Ev.Stay [49, 12] a a2 := by rw [qa2]; exact k1.put (by decide) _
  have e2_47 := Ev.oth qa2 (by decide) e1_47
  have e2_49 := Ev.oth qa2 (by decide) e1_49
  have e2_12 := Ev.sam qa2 (by rw [k1.1, hsz]; decide)
  rw [← qa2]
  clear qa2 e1_47 e1_49
  exact hQ _ k2 e2_12
set_option maxHeartbeats 2000000 in
theorem Rg.s13 {id : Nat} {Q : Exit → Act → World → Prop} {a : Act} {W : World} {k : Nat}
    (hsz : a.tmps.size = 137)  (h51 : a.eval (.tmp 51) = .int .i64 (k : Int))
    (hQ : ∀ a', Ev.Stay [53, 13] a a' → a'.eval (.tmp 13) = .int .i64 (k : Int) → Q .normal a' (W)) : (Code.region id (Rg.ops 33 13) false).wp Try.prog Q a W := by
  refine wp_region_list ?_
  show wpList _ _ _ (_ :: _ :: []) _ _
  have k0 : Ev.Stay [53, 13] a a := Ev.Stay.refl [53, 13] a
  refine Ev.pv (N := 53) (v := .int .i64 (k : Int)) (W' := W) ?_ rfl rfl ?_
  · unfold execOp
    generalize a.eval = ev at *
    go_simp
  obtain ⟨a1, qa1⟩ : ∃ z_, z_ = a.put (some 53) (.int .i64 (k : Int)) := ⟨_, rfl⟩
  have k1 : Ev.Stay [53, 13] a a1 := by rw [qa1]; exact k0.put (by decide) _
  have e1_51 := Ev.oth qa1 (by decide) h51
  have e1_53 := Ev.sam qa1 (by rw [k0.1, hsz]; decide)
  rw [← qa1]
  clear qa1 
  refine Ev.pv (N := 13) (v := .int .i64 (k : Int)) (W' := W) ?_ rfl rfl ?_
  · unfold execOp
    generalize a1.eval = ev at *
    go_simp
  obtain ⟨a2, qa2⟩ : ∃ z_, z_ = a1.put (some 13) (.int .i64 (k : Int)) := ⟨_, rfl⟩
  have k2 : Ev.Stay [53, 13] a a2 := by rw [qa2]; exact k1.put (by decide) _
  have e2_51 := Ev.oth qa2 (by decide) e1_51
  have e2_53 := Ev.oth qa2 (by decide) e1_53
  have e2_13 := Ev.sam qa2 (by rw [k1.1, hsz]; decide)
  rw [← qa2]
  clear qa2 e1_51 e1_53
  exact hQ _ k2 e2_13
set_option maxHeartbeats 2000000 in
theorem Rg.s21 {id : Nat} {Q : Exit → Act → World → Prop} {a : Act} {W : World} {k : Nat}
    (hsz : a.tmps.size = 137)  (h97 : a.eval (.tmp 97) = .int .i64 (k : Int))
    (hQ : ∀ a', Ev.Stay [99, 14] a a' → a'.eval (.tmp 14) = .int .i64 (k : Int) → Q .normal a' (W)) : (Code.region id (Rg.ops 33 21) false).wp Try.prog Q a W := by
  refine wp_region_list ?_
  show wpList _ _ _ (_ :: _ :: []) _ _
  have k0 : Ev.Stay [99, 14] a a := Ev.Stay.refl [99, 14] a
  refine Ev.pv (N := 99) (v := .int .i64 (k : Int)) (W' := W) ?_ rfl rfl ?_
  · unfold execOp
    generalize a.eval = ev at *
    go_simp
  obtain ⟨a1, qa1⟩ : ∃ z_, z_ = a.put (some 99) (.int .i64 (k : Int)) := ⟨_, rfl⟩
  have k1 : Ev.Stay [99, 14] a a1 := by rw [qa1]; exact k0.put (by decide) _
  have e1_97 := Ev.oth qa1 (by decide) h97
  have e1_99 := Ev.sam qa1 (by rw [k0.1, hsz]; decide)
  rw [← qa1]
  clear qa1 
  refine Ev.pv (N := 14) (v := .int .i64 (k : Int)) (W' := W) ?_ rfl rfl ?_
  · unfold execOp
    generalize a1.eval = ev at *
    go_simp
  obtain ⟨a2, qa2⟩ : ∃ z_, z_ = a1.put (some 14) (.int .i64 (k : Int)) := ⟨_, rfl⟩
  have k2 : Ev.Stay [99, 14] a a2 := by rw [qa2]; exact k1.put (by decide) _
  have e2_97 := Ev.oth qa2 (by decide) e1_97
  have e2_99 := Ev.oth qa2 (by decide) e1_99
  have e2_14 := Ev.sam qa2 (by rw [k1.1, hsz]; decide)
  rw [← qa2]
  clear qa2 e1_97 e1_99
  exact hQ _ k2 e2_14
set_option maxHeartbeats 2000000 in
theorem Rg.s7 {id : Nat} {Q : Exit → Act → World → Prop} {a : Act} {W : World} {k : Nat}
    (hsz : a.tmps.size = 137)  (h16 : a.eval (.tmp 16) = .int .i64 (k : Int)) (hk : k < 100)
    (hQ : ∀ a', Ev.Stay [45, 16] a a' → a'.eval (.tmp 16) = .int .i64 ((k + 1 : Nat) : Int) → Q .normal a' (W)) : (Code.region id (Rg.ops 33 7) false).wp Try.prog Q a W := by
  refine wp_region_list ?_
  show wpList _ _ _ (_ :: _ :: []) _ _
  have k0 : Ev.Stay [45, 16] a a := Ev.Stay.refl [45, 16] a
  refine Ev.pv (N := 45) (v := .int .i64 ((k + 1 : Nat) : Int)) (W' := W) ?_ rfl rfl ?_
  · have ec0 : a.eval (.const (.int .i64 (1))) = .int .i64 (1) := rfl
    unfold execOp
    generalize a.eval = ev at *
    (go_simp; exact wr (by omega) (by omega))
  obtain ⟨a1, qa1⟩ : ∃ z_, z_ = a.put (some 45) (.int .i64 ((k + 1 : Nat) : Int)) := ⟨_, rfl⟩
  have k1 : Ev.Stay [45, 16] a a1 := by rw [qa1]; exact k0.put (by decide) _
  have e1_16 := Ev.oth qa1 (by decide) h16
  have e1_45 := Ev.sam qa1 (by rw [k0.1, hsz]; decide)
  rw [← qa1]
  clear qa1 
  refine Ev.pv (N := 16) (v := .int .i64 ((k + 1 : Nat) : Int)) (W' := W) ?_ rfl rfl ?_
  · unfold execOp
    generalize a1.eval = ev at *
    go_simp
  obtain ⟨a2, qa2⟩ : ∃ z_, z_ = a1.put (some 16) (.int .i64 ((k + 1 : Nat) : Int)) := ⟨_, rfl⟩
  have k2 : Ev.Stay [45, 16] a a2 := by rw [qa2]; exact k1.put (by decide) _
  have e2_45 := Ev.oth qa2 (by decide) e1_45
  have e2_16 := Ev.sam qa2 (by rw [k1.1, hsz]; decide)
  rw [← qa2]
  clear qa2 e1_16 e1_45
  exact hQ _ k2 e2_16
set_option maxHeartbeats 2000000 in
theorem Rg.s17 {id : Nat} {Q : Exit → Act → World → Prop} {a : Act} {W : World} {k : Nat}
    (hsz : a.tmps.size = 137)  (h51 : a.eval (.tmp 51) = .int .i64 (k : Int)) (hk : k < 100)
    (hQ : ∀ a', Ev.Stay [94, 51] a a' → a'.eval (.tmp 51) = .int .i64 ((k + 1 : Nat) : Int) → Q .normal a' (W)) : (Code.region id (Rg.ops 33 17) false).wp Try.prog Q a W := by
  refine wp_region_list ?_
  show wpList _ _ _ (_ :: _ :: []) _ _
  have k0 : Ev.Stay [94, 51] a a := Ev.Stay.refl [94, 51] a
  refine Ev.pv (N := 94) (v := .int .i64 ((k + 1 : Nat) : Int)) (W' := W) ?_ rfl rfl ?_
  · have ec0 : a.eval (.const (.int .i64 (1))) = .int .i64 (1) := rfl
    unfold execOp
    generalize a.eval = ev at *
    (go_simp; exact wr (by omega) (by omega))
  obtain ⟨a1, qa1⟩ : ∃ z_, z_ = a.put (some 94) (.int .i64 ((k + 1 : Nat) : Int)) := ⟨_, rfl⟩
  have k1 : Ev.Stay [94, 51] a a1 := by rw [qa1]; exact k0.put (by decide) _
  have e1_51 := Ev.oth qa1 (by decide) h51
  have e1_94 := Ev.sam qa1 (by rw [k0.1, hsz]; decide)
  rw [← qa1]
  clear qa1 
  refine Ev.pv (N := 51) (v := .int .i64 ((k + 1 : Nat) : Int)) (W' := W) ?_ rfl rfl ?_
  · unfold execOp
    generalize a1.eval = ev at *
    go_simp
  obtain ⟨a2, qa2⟩ : ∃ z_, z_ = a1.put (some 51) (.int .i64 ((k + 1 : Nat) : Int)) := ⟨_, rfl⟩
  have k2 : Ev.Stay [94, 51] a a2 := by rw [qa2]; exact k1.put (by decide) _
  have e2_94 := Ev.oth qa2 (by decide) e1_94
  have e2_51 := Ev.sam qa2 (by rw [k1.1, hsz]; decide)
  rw [← qa2]
  clear qa2 e1_51 e1_94
  exact hQ _ k2 e2_51
set_option maxHeartbeats 2000000 in
theorem Rg.s18 {id : Nat} {Q : Exit → Act → World → Prop} {a : Act} {W : World} {k : Nat}
    (hsz : a.tmps.size = 137)  (h47 : a.eval (.tmp 47) = .int .i64 (k : Int)) (hk : k < 100)
    (hQ : ∀ a', Ev.Stay [95, 47] a a' → a'.eval (.tmp 47) = .int .i64 ((k + 1 : Nat) : Int) → Q .normal a' (W)) : (Code.region id (Rg.ops 33 18) false).wp Try.prog Q a W := by
  refine wp_region_list ?_
  show wpList _ _ _ (_ :: _ :: []) _ _
  have k0 : Ev.Stay [95, 47] a a := Ev.Stay.refl [95, 47] a
  refine Ev.pv (N := 95) (v := .int .i64 ((k + 1 : Nat) : Int)) (W' := W) ?_ rfl rfl ?_
  · have ec0 : a.eval (.const (.int .i64 (1))) = .int .i64 (1) := rfl
    unfold execOp
    generalize a.eval = ev at *
    (go_simp; exact wr (by omega) (by omega))
  obtain ⟨a1, qa1⟩ : ∃ z_, z_ = a.put (some 95) (.int .i64 ((k + 1 : Nat) : Int)) := ⟨_, rfl⟩
  have k1 : Ev.Stay [95, 47] a a1 := by rw [qa1]; exact k0.put (by decide) _
  have e1_47 := Ev.oth qa1 (by decide) h47
  have e1_95 := Ev.sam qa1 (by rw [k0.1, hsz]; decide)
  rw [← qa1]
  clear qa1 
  refine Ev.pv (N := 47) (v := .int .i64 ((k + 1 : Nat) : Int)) (W' := W) ?_ rfl rfl ?_
  · unfold execOp
    generalize a1.eval = ev at *
    go_simp
  obtain ⟨a2, qa2⟩ : ∃ z_, z_ = a1.put (some 47) (.int .i64 ((k + 1 : Nat) : Int)) := ⟨_, rfl⟩
  have k2 : Ev.Stay [95, 47] a a2 := by rw [qa2]; exact k1.put (by decide) _
  have e2_95 := Ev.oth qa2 (by decide) e1_95
  have e2_47 := Ev.sam qa2 (by rw [k1.1, hsz]; decide)
  rw [← qa2]
  clear qa2 e1_47 e1_95
  exact hQ _ k2 e2_47
set_option maxHeartbeats 2000000 in
theorem Rg.s24 {id : Nat} {Q : Exit → Act → World → Prop} {a : Act} {W : World} {k : Nat}
    (hsz : a.tmps.size = 137)  (h97 : a.eval (.tmp 97) = .int .i64 (k : Int)) (hk : k < 100)
    (hQ : ∀ a', Ev.Stay [134, 97] a a' → a'.eval (.tmp 97) = .int .i64 ((k + 1 : Nat) : Int) → Q .normal a' (W)) : (Code.region id (Rg.ops 33 24) false).wp Try.prog Q a W := by
  refine wp_region_list ?_
  show wpList _ _ _ (_ :: _ :: []) _ _
  have k0 : Ev.Stay [134, 97] a a := Ev.Stay.refl [134, 97] a
  refine Ev.pv (N := 134) (v := .int .i64 ((k + 1 : Nat) : Int)) (W' := W) ?_ rfl rfl ?_
  · have ec0 : a.eval (.const (.int .i64 (1))) = .int .i64 (1) := rfl
    unfold execOp
    generalize a.eval = ev at *
    (go_simp; exact wr (by omega) (by omega))
  obtain ⟨a1, qa1⟩ : ∃ z_, z_ = a.put (some 134) (.int .i64 ((k + 1 : Nat) : Int)) := ⟨_, rfl⟩
  have k1 : Ev.Stay [134, 97] a a1 := by rw [qa1]; exact k0.put (by decide) _
  have e1_97 := Ev.oth qa1 (by decide) h97
  have e1_134 := Ev.sam qa1 (by rw [k0.1, hsz]; decide)
  rw [← qa1]
  clear qa1 
  refine Ev.pv (N := 97) (v := .int .i64 ((k + 1 : Nat) : Int)) (W' := W) ?_ rfl rfl ?_
  · unfold execOp
    generalize a1.eval = ev at *
    go_simp
  obtain ⟨a2, qa2⟩ : ∃ z_, z_ = a1.put (some 97) (.int .i64 ((k + 1 : Nat) : Int)) := ⟨_, rfl⟩
  have k2 : Ev.Stay [134, 97] a a2 := by rw [qa2]; exact k1.put (by decide) _
  have e2_134 := Ev.oth qa2 (by decide) e1_134
  have e2_97 := Ev.sam qa2 (by rw [k1.1, hsz]; decide)
  rw [← qa2]
  clear qa2 e1_97 e1_134
  exact hQ _ k2 e2_97
set_option maxHeartbeats 2000000 in
theorem Rg.s14 {id : Nat} {Q : Exit → Act → World → Prop} {a : Act} {W : World} {t r c : Nat} {q bt : Int}
    (hsz : a.tmps.size = 137)  (h0 : a.eval (.tmp 0) = .int .i64 (t : Int)) (h1 : a.eval (.tmp 1) = .int .i64 (q)) (h12 : a.eval (.tmp 12) = .int .i64 (r : Int)) (h13 : a.eval (.tmp 13) = .int .i64 (c : Int)) (hm : ((r * t : Nat) : Int) = (r : Int) * (t : Int) ∧ (r * t : Nat) < 32) (hc : c < 32) (hb : bits .and .i64 (q / 2 ^ (r * t + c)) 1 = bt)
    (hQ : ∀ a', Ev.Stay [54, 55, 56, 57, 58, 59, 60, 61, 62] a a' → a'.eval (.tmp 62) = .bool (bt == 1) → Q .normal a' (W)) : (Code.region id (Rg.ops 33 14) false).wp Try.prog Q a W := by
  refine wp_region_list ?_
  show wpList _ _ _ (_ :: _ :: _ :: _ :: _ :: _ :: _ :: _ :: _ :: []) _ _
  have k0 : Ev.Stay [54, 55, 56, 57, 58, 59, 60, 61, 62] a a := Ev.Stay.refl [54, 55, 56, 57, 58, 59, 60, 61, 62] a
  refine Ev.pv (N := 54) (v := .int .i64 (q)) (W' := W) ?_ rfl rfl ?_
  · unfold execOp
    generalize a.eval = ev at *
    go_simp
  obtain ⟨a1, qa1⟩ : ∃ z_, z_ = a.put (some 54) (.int .i64 (q)) := ⟨_, rfl⟩
  have k1 : Ev.Stay [54, 55, 56, 57, 58, 59, 60, 61, 62] a a1 := by rw [qa1]; exact k0.put (by decide) _
  have e1_0 := Ev.oth qa1 (by decide) h0
  have e1_1 := Ev.oth qa1 (by decide) h1
  have e1_12 := Ev.oth qa1 (by decide) h12
  have e1_13 := Ev.oth qa1 (by decide) h13
  have e1_54 := Ev.sam qa1 (by rw [k0.1, hsz]; decide)
  rw [← qa1]
  clear qa1 
  refine Ev.pv (N := 55) (v := .int .i64 (r : Int)) (W' := W) ?_ rfl rfl ?_
  · unfold execOp
    generalize a1.eval = ev at *
    go_simp
  obtain ⟨a2, qa2⟩ : ∃ z_, z_ = a1.put (some 55) (.int .i64 (r : Int)) := ⟨_, rfl⟩
  have k2 : Ev.Stay [54, 55, 56, 57, 58, 59, 60, 61, 62] a a2 := by rw [qa2]; exact k1.put (by decide) _
  have e2_0 := Ev.oth qa2 (by decide) e1_0
  have e2_1 := Ev.oth qa2 (by decide) e1_1
  have e2_12 := Ev.oth qa2 (by decide) e1_12
  have e2_13 := Ev.oth qa2 (by decide) e1_13
  have e2_54 := Ev.oth qa2 (by decide) e1_54
  have e2_55 := Ev.sam qa2 (by rw [k1.1, hsz]; decide)
  rw [← qa2]
  clear qa2 e1_0 e1_1 e1_12 e1_13 e1_54
  refine Ev.pv (N := 56) (v := .int .i64 (t : Int)) (W' := W) ?_ rfl rfl ?_
  · unfold execOp
    generalize a2.eval = ev at *
    go_simp
  obtain ⟨a3, qa3⟩ : ∃ z_, z_ = a2.put (some 56) (.int .i64 (t : Int)) := ⟨_, rfl⟩
  have k3 : Ev.Stay [54, 55, 56, 57, 58, 59, 60, 61, 62] a a3 := by rw [qa3]; exact k2.put (by decide) _
  have e3_0 := Ev.oth qa3 (by decide) e2_0
  have e3_1 := Ev.oth qa3 (by decide) e2_1
  have e3_12 := Ev.oth qa3 (by decide) e2_12
  have e3_13 := Ev.oth qa3 (by decide) e2_13
  have e3_54 := Ev.oth qa3 (by decide) e2_54
  have e3_55 := Ev.oth qa3 (by decide) e2_55
  have e3_56 := Ev.sam qa3 (by rw [k2.1, hsz]; decide)
  rw [← qa3]
  clear qa3 e2_0 e2_1 e2_12 e2_13 e2_54 e2_55
  refine Ev.pv (N := 57) (v := .int .i64 ((r * t : Nat) : Int)) (W' := W) ?_ rfl rfl ?_
  · have hm_ := hm.1
    have hm2_ := hm.2
    unfold execOp
    generalize a3.eval = ev at *
    (go_simp; rw [← hm_]; exact wr (by omega) (by omega))
  obtain ⟨a4, qa4⟩ : ∃ z_, z_ = a3.put (some 57) (.int .i64 ((r * t : Nat) : Int)) := ⟨_, rfl⟩
  have k4 : Ev.Stay [54, 55, 56, 57, 58, 59, 60, 61, 62] a a4 := by rw [qa4]; exact k3.put (by decide) _
  have e4_0 := Ev.oth qa4 (by decide) e3_0
  have e4_1 := Ev.oth qa4 (by decide) e3_1
  have e4_12 := Ev.oth qa4 (by decide) e3_12
  have e4_13 := Ev.oth qa4 (by decide) e3_13
  have e4_54 := Ev.oth qa4 (by decide) e3_54
  have e4_55 := Ev.oth qa4 (by decide) e3_55
  have e4_56 := Ev.oth qa4 (by decide) e3_56
  have e4_57 := Ev.sam qa4 (by rw [k3.1, hsz]; decide)
  rw [← qa4]
  clear qa4 e3_0 e3_1 e3_12 e3_13 e3_54 e3_55 e3_56
  clear e4_55
  clear e4_56
  refine Ev.pv (N := 58) (v := .int .i64 (c : Int)) (W' := W) ?_ rfl rfl ?_
  · unfold execOp
    generalize a4.eval = ev at *
    go_simp
  obtain ⟨a5, qa5⟩ : ∃ z_, z_ = a4.put (some 58) (.int .i64 (c : Int)) := ⟨_, rfl⟩
  have k5 : Ev.Stay [54, 55, 56, 57, 58, 59, 60, 61, 62] a a5 := by rw [qa5]; exact k4.put (by decide) _
  have e5_0 := Ev.oth qa5 (by decide) e4_0
  have e5_1 := Ev.oth qa5 (by decide) e4_1
  have e5_12 := Ev.oth qa5 (by decide) e4_12
  have e5_13 := Ev.oth qa5 (by decide) e4_13
  have e5_54 := Ev.oth qa5 (by decide) e4_54
  have e5_57 := Ev.oth qa5 (by decide) e4_57
  have e5_58 := Ev.sam qa5 (by rw [k4.1, hsz]; decide)
  rw [← qa5]
  clear qa5 e4_0 e4_1 e4_12 e4_13 e4_54 e4_57
  refine Ev.pv (N := 59) (v := .int .i64 ((r * t + c : Nat) : Int)) (W' := W) ?_ rfl rfl ?_
  · have hm2_ := hm.2
    unfold execOp
    generalize a5.eval = ev at *
    (go_simp; exact wr (by omega) (by omega))
  obtain ⟨a6, qa6⟩ : ∃ z_, z_ = a5.put (some 59) (.int .i64 ((r * t + c : Nat) : Int)) := ⟨_, rfl⟩
  have k6 : Ev.Stay [54, 55, 56, 57, 58, 59, 60, 61, 62] a a6 := by rw [qa6]; exact k5.put (by decide) _
  have e6_0 := Ev.oth qa6 (by decide) e5_0
  have e6_1 := Ev.oth qa6 (by decide) e5_1
  have e6_12 := Ev.oth qa6 (by decide) e5_12
  have e6_13 := Ev.oth qa6 (by decide) e5_13
  have e6_54 := Ev.oth qa6 (by decide) e5_54
  have e6_57 := Ev.oth qa6 (by decide) e5_57
  have e6_58 := Ev.oth qa6 (by decide) e5_58
  have e6_59 := Ev.sam qa6 (by rw [k5.1, hsz]; decide)
  rw [← qa6]
  clear qa6 e5_0 e5_1 e5_12 e5_13 e5_54 e5_57 e5_58
  clear e6_57
  clear e6_58
  refine Ev.pv (N := 60) (v := .int .i64 (q / 2 ^ (r * t + c))) (W' := W) ?_ rfl rfl ?_
  · have hm_ := hm.1
    have l0_ : (0 : Int) ≤ (r : Int) * (t : Int) + (c : Int) := by omega
    have l1_ : ((r : Int) * (t : Int) + (c : Int)).toNat = r * t + c := by omega
    have mn_ : min (r * t + c) 64 = r * t + c := by have := hm.2; omega
    clear hm_
    unfold execOp
    generalize a6.eval = ev at *
    go_simp
  obtain ⟨a7, qa7⟩ : ∃ z_, z_ = a6.put (some 60) (.int .i64 (q / 2 ^ (r * t + c))) := ⟨_, rfl⟩
  have k7 : Ev.Stay [54, 55, 56, 57, 58, 59, 60, 61, 62] a a7 := by rw [qa7]; exact k6.put (by decide) _
  have e7_0 := Ev.oth qa7 (by decide) e6_0
  have e7_1 := Ev.oth qa7 (by decide) e6_1
  have e7_12 := Ev.oth qa7 (by decide) e6_12
  have e7_13 := Ev.oth qa7 (by decide) e6_13
  have e7_54 := Ev.oth qa7 (by decide) e6_54
  have e7_59 := Ev.oth qa7 (by decide) e6_59
  have e7_60 := Ev.sam qa7 (by rw [k6.1, hsz]; decide)
  rw [← qa7]
  clear qa7 e6_0 e6_1 e6_12 e6_13 e6_54 e6_59
  clear e7_54
  clear e7_59
  refine Ev.pv (N := 61) (v := .int .i64 (bt)) (W' := W) ?_ rfl rfl ?_
  · have ec0 : a7.eval (.const (.int .i64 (1))) = .int .i64 (1) := rfl
    have hb_ := hb
    unfold execOp
    generalize a7.eval = ev at *
    go_simp
  obtain ⟨a8, qa8⟩ : ∃ z_, z_ = a7.put (some 61) (.int .i64 (bt)) := ⟨_, rfl⟩
  have k8 : Ev.Stay [54, 55, 56, 57, 58, 59, 60, 61, 62] a a8 := by rw [qa8]; exact k7.put (by decide) _
  have e8_0 := Ev.oth qa8 (by decide) e7_0
  have e8_1 := Ev.oth qa8 (by decide) e7_1
  have e8_12 := Ev.oth qa8 (by decide) e7_12
  have e8_13 := Ev.oth qa8 (by decide) e7_13
  have e8_60 := Ev.oth qa8 (by decide) e7_60
  have e8_61 := Ev.sam qa8 (by rw [k7.1, hsz]; decide)
  rw [← qa8]
  clear qa8 e7_0 e7_1 e7_12 e7_13 e7_60
  clear e8_60
  refine Ev.pv (N := 62) (v := .bool (bt == 1)) (W' := W) ?_ rfl rfl ?_
  · have ec0 : a8.eval (.const (.int .i64 (1))) = .int .i64 (1) := rfl
    unfold execOp
    generalize a8.eval = ev at *
    go_simp
  obtain ⟨a9, qa9⟩ : ∃ z_, z_ = a8.put (some 62) (.bool (bt == 1)) := ⟨_, rfl⟩
  have k9 : Ev.Stay [54, 55, 56, 57, 58, 59, 60, 61, 62] a a9 := by rw [qa9]; exact k8.put (by decide) _
  have e9_0 := Ev.oth qa9 (by decide) e8_0
  have e9_1 := Ev.oth qa9 (by decide) e8_1
  have e9_12 := Ev.oth qa9 (by decide) e8_12
  have e9_13 := Ev.oth qa9 (by decide) e8_13
  have e9_61 := Ev.oth qa9 (by decide) e8_61
  have e9_62 := Ev.sam qa9 (by rw [k8.1, hsz]; decide)
  rw [← qa9]
  clear qa9 e8_0 e8_1 e8_12 e8_13 e8_61
  exact hQ _ k9 e9_62
set_option maxHeartbeats 2000000 in
theorem Rg.s25 {id : Nat} {Q : Exit → Act → World → Prop} {a : Act} {W : World} {x y : Int}
    (hsz : a.tmps.size = 137)  (h8 : a.eval (.tmp 8) = .int .i64 (x)) (h9 : a.eval (.tmp 9) = .int .i64 (y))
    (hQ : ∀ a', Ev.Stay [135, 136, 8, 9] a a' → a'.eval (.tmp 8) = .int .i64 (x) → a'.eval (.tmp 9) = .int .i64 (y) → Q .normal a' (W)) : (Code.region id (Rg.ops 33 25) false).wp Try.prog Q a W := by
  refine wp_region_list ?_
  show wpList _ _ _ (_ :: _ :: _ :: _ :: []) _ _
  have k0 : Ev.Stay [135, 136, 8, 9] a a := Ev.Stay.refl [135, 136, 8, 9] a
  refine Ev.pv (N := 135) (v := .int .i64 (x)) (W' := W) ?_ rfl rfl ?_
  · unfold execOp
    generalize a.eval = ev at *
    go_simp
  obtain ⟨a1, qa1⟩ : ∃ z_, z_ = a.put (some 135) (.int .i64 (x)) := ⟨_, rfl⟩
  have k1 : Ev.Stay [135, 136, 8, 9] a a1 := by rw [qa1]; exact k0.put (by decide) _
  have e1_8 := Ev.oth qa1 (by decide) h8
  have e1_9 := Ev.oth qa1 (by decide) h9
  have e1_135 := Ev.sam qa1 (by rw [k0.1, hsz]; decide)
  rw [← qa1]
  clear qa1 
  refine Ev.pv (N := 136) (v := .int .i64 (y)) (W' := W) ?_ rfl rfl ?_
  · unfold execOp
    generalize a1.eval = ev at *
    go_simp
  obtain ⟨a2, qa2⟩ : ∃ z_, z_ = a1.put (some 136) (.int .i64 (y)) := ⟨_, rfl⟩
  have k2 : Ev.Stay [135, 136, 8, 9] a a2 := by rw [qa2]; exact k1.put (by decide) _
  have e2_8 := Ev.oth qa2 (by decide) e1_8
  have e2_9 := Ev.oth qa2 (by decide) e1_9
  have e2_135 := Ev.oth qa2 (by decide) e1_135
  have e2_136 := Ev.sam qa2 (by rw [k1.1, hsz]; decide)
  rw [← qa2]
  clear qa2 e1_8 e1_9 e1_135
  refine Ev.pv (N := 8) (v := .int .i64 (x)) (W' := W) ?_ rfl rfl ?_
  · unfold execOp
    generalize a2.eval = ev at *
    go_simp
  obtain ⟨a3, qa3⟩ : ∃ z_, z_ = a2.put (some 8) (.int .i64 (x)) := ⟨_, rfl⟩
  have k3 : Ev.Stay [135, 136, 8, 9] a a3 := by rw [qa3]; exact k2.put (by decide) _
  have e3_9 := Ev.oth qa3 (by decide) e2_9
  have e3_135 := Ev.oth qa3 (by decide) e2_135
  have e3_136 := Ev.oth qa3 (by decide) e2_136
  have e3_8 := Ev.sam qa3 (by rw [k2.1, hsz]; decide)
  rw [← qa3]
  clear qa3 e2_8 e2_9 e2_135 e2_136
  clear e3_135
  refine Ev.pv (N := 9) (v := .int .i64 (y)) (W' := W) ?_ rfl rfl ?_
  · unfold execOp
    generalize a3.eval = ev at *
    go_simp
  obtain ⟨a4, qa4⟩ : ∃ z_, z_ = a3.put (some 9) (.int .i64 (y)) := ⟨_, rfl⟩
  have k4 : Ev.Stay [135, 136, 8, 9] a a4 := by rw [qa4]; exact k3.put (by decide) _
  have e4_136 := Ev.oth qa4 (by decide) e3_136
  have e4_8 := Ev.oth qa4 (by decide) e3_8
  have e4_9 := Ev.sam qa4 (by rw [k3.1, hsz]; decide)
  rw [← qa4]
  clear qa4 e3_9 e3_136 e3_8
  exact hQ _ k4 e4_8 e4_9
end Go.Proofs.Ytpdjdffimighkaa.Tile
