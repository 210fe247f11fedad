/- Words of the printer, those that are used. -/
import Derived.Test.YtpdjdffimighkaaZPRussKnownx0
import Derived.Test.YtpdjdffimighkaaZHRx
namespace Go.Proofs.Ytpdjdffimighkaa.PRussKnown
open Go.RowKit Go.Proofs.YtpdjdffimighkaaW.PrintWords Go.Proofs.YtpdjdffimighkaaW.PrintLast Go.Proofs.YtpdjdffimighkaaW.PrintMore
attribute [local go_sem] max2_int min2_int max_two min_two max_three min_three max_four min_four   -- for this text's walks alone
set_option linter.unusedVariables false
set_option linter.unusedSimpArgs false
/-! ### tattinglaw14_RussKnown: function 3 -/
open Go.Proofs.Ytpdjdffimighkaa.Tile
theorem of3 (w : World) : Calls Try.prog 7 #[.int .u8 2] w fun e w' => e = .returned (.pointer (some ⟨w.heap.size, 0, none⟩)) ∧ w' = w.alloc (.cells (blk 3 0 0 (.slice none 0 0)) 65) := of_calls (x := 2) (by decide) w
theorem rev0 : Go.Proofs.Ytpdjdffimighkaa.PRussRuns.api_Pair.f 10 (pairsP (pathF [] [1] 1 0 1)) = some [] := by kernel_rfl
theorem rev1 : Go.Proofs.Ytpdjdffimighkaa.PRussRuns.api_Pair.f 10 (pairsP (pathF [0] [0] 2 1 1)) = some [⟨0, 0⟩] := by kernel_rfl
set_option maxRecDepth 100000 in
set_option maxHeartbeats 4000000 in
theorem known (w : World) : Calls Try.prog 3 #[] w fun e w' => e = .returned (.bool true) ∧ Below w.heap.size w w' := by
  go_enter Try.func3, Try.ntmps3
  go_wp2_with fail
  refine (of3 _).mono ?_
  rintro e w' ⟨rfl, rfl⟩
  have T1 := Aside0.mk (Tl.new (t := 3) (by decide) w)
  have B1 := Aside0.mk (below_alloc (Below.refl w.heap.size w) (.cells (blk 3 0 0 (.slice none 0 0)) 65))
  generalize (w.alloc (.cells (blk 3 0 0 (.slice none 0 0)) 65)) = w1 at T1 B1 ⊢
  go_wp2_with fail
  refine (awake w1).mono ?_
  rintro e w2 ⟨rfl, hb⟩
  have T2 := Aside0.mk (T1.out.below hb)
  have B2 := Aside0.mk (B1.out.trans (hb.mono B1.out.size))
  clear hb T1 B1
  go_wp2_with fail
  refine (len_none w2).mono ?_
  rintro e w3 ⟨rfl, rfl⟩
  go_wp2_with fail
  refine (run_none _).mono ?_
  rintro e w3 ⟨rfl, rfl⟩
  have hb : Below w2.heap.size w2 ((w2.alloc (.cells #[.int .i64 1] 3)).alloc (.cells #[.int .i64 1] 3)) := below_alloc (below_alloc (Below.refl _ _) _) _
  have T3 := Aside0.mk (T2.out.below hb)
  have B3 := Aside0.mk (B2.out.trans (hb.mono B2.out.size))
  clear hb T2 B2
  generalize ((w2.alloc (.cells #[.int .i64 1] 3)).alloc (.cells #[.int .i64 1] 3)) = w3 at T3 B3 ⊢
  go_wp2_with fail
  have hl : (w3.alloc (.cells #[.int .i64 1] 3)).heap[w3.heap.size]? = some (.cells (([1] : List Int).map (Value.int .i64)).toArray 3 (0, 0)) := blk_new w3 _
  have hb : Below w3.heap.size w3 (w3.alloc (.cells #[.int .i64 1] 3)) := below_alloc (Below.refl _ _) _
  have hlt := T3.out.lt
  generalize hw4 : (w3.alloc (.cells #[.int .i64 1] 3)) = w4 at hl hb ⊢
  clear hw4
  refine (run_calls (n0 := w.heap.size) (la := []) (lb := [1]) (A1 := none) (A2 := some ⟨w3.heap.size, 0, none⟩) (c1 := 0) (c2 := 1) w4 (T3.out.below hb) (by decide) (by decide) (by decide) (by decide) (Nat.le_refl _) rev0 Kd.C_kept_nil (lit_held _ hl (by decide) (by omega))).mono ?_
  rintro e w5 ⟨v5, rfl, hR, hT, _, hb5⟩
  obtain ⟨A5, c5, rfl, _, _⟩ := Kd.R_reads hR
  have h0 : ((upN ([] : List Int).length 3 * upN ([1] : List Int).length 3 : Nat) : Int) = 0 := by decide
  rw [h0]
  have T5 := Aside0.mk hT
  have B5 := Aside0.mk ((B3.out.trans (hb.mono B3.out.size)).trans hb5)
  clear hR hT hb hb5 hl hlt T3 B3
  go_wp2_with fail
  have ha : ((w5.alloc (.cells #[.int .i64 0] 3)).alloc (.cells #[.int .i64 0] 3)).heap[w5.heap.size]? = some (.cells (([0] : List Int).map (Value.int .i64)).toArray 3 (0, 0)) := blk_alloc (blk_new w5 _) _
  have hl : ((w5.alloc (.cells #[.int .i64 0] 3)).alloc (.cells #[.int .i64 0] 3)).heap[w5.heap.size + 1]? = some (.cells (([0] : List Int).map (Value.int .i64)).toArray 3 (0, 0)) := by
    have := blk_new (w5.alloc (.cells #[.int .i64 0] 3)) (.cells #[.int .i64 0] 3)
    rw [World.size_alloc] at this
    exact this
  have hb : Below w5.heap.size w5 ((w5.alloc (.cells #[.int .i64 0] 3)).alloc (.cells #[.int .i64 0] 3)) := below_alloc (below_alloc (Below.refl _ _) _) _
  have hlt := T5.out.lt
  generalize ((w5.alloc (.cells #[.int .i64 0] 3)).alloc (.cells #[.int .i64 0] 3)) = w6 at ha hl hb ⊢
  refine (run_calls (n0 := w.heap.size) (la := [0]) (lb := [0]) (A1 := some ⟨w5.heap.size, 0, none⟩) (A2 := some ⟨w5.heap.size + 1, 0, none⟩) (c1 := 1) (c2 := 1) w6 (T5.out.below hb) (by decide) (by decide) (by decide) (by decide) (Nat.le_refl _) rev1 (lit_held _ ha (by decide) (by omega)) (lit_held _ hl (by decide) (by omega))).mono ?_
  rintro e w7 ⟨v7, rfl, hR, _, _, hb7⟩
  obtain ⟨A7, c7, rfl, _, _⟩ := Kd.R_reads hR
  have h1 : ((upN ([0] : List Int).length 3 * upN ([0] : List Int).length 3 : Nat) : Int) = 1 := by decide
  rw [h1]
  have B7 := Aside0.mk ((B5.out.trans (hb.mono B5.out.size)).trans hb7)
  clear hR hb hb7 ha hl hlt T5 B5
  go_wp2_with fail
  go_ret
  exact ⟨rfl, B7.out⟩
def tattinglaw14_RussKnown.f  : Option Bool := some true
theorem tattinglaw14_RussKnown.calls  (r : Bool) (w : World) (h : tattinglaw14_RussKnown.f  = some r) (HRT : Aside0 (r = true)) :
    Calls Try.prog 3 #[] w fun e w' => e = .returned (.bool r) ∧ Below w.heap.size w w' := by
  unfold tattinglaw14_RussKnown.f at h
  obtain rfl := Option.some.inj h
  exact known w
/-- THE ONE PURE STATEMENT of tattinglaw14_RussKnown: yours. -/
def tattinglaw14_RussKnown.Pure : Prop := tattinglaw14_RussKnown.f  = some true
theorem tattinglaw14_RussKnown.walk (P : tattinglaw14_RussKnown.Pure)  (w : World)  :
    Calls Try.prog 3 #[] w fun e w' => e = .returned (.bool true) ∧ Below w.heap.size w w' := by
  have h := P  
  refine (tattinglaw14_RussKnown.calls  true w h ⟨rfl⟩).mono ?_
  rintro e w' ⟨rfl, hd⟩
  exact ⟨rfl, hd⟩
end Go.Proofs.Ytpdjdffimighkaa.PRussKnown
