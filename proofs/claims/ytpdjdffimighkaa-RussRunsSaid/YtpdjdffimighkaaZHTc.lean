/- tile.New, (*Tiles).Look. -/
import Derived.Test.YtpdjdffimighkaaZHTb
namespace Go.Proofs.Ytpdjdffimighkaa.Tile
open Go.RowKit Go.Proofs.YtpdjdffimighkaaW.PrintWords Go.Proofs.YtpdjdffimighkaaW.PrintLast Go.Proofs.YtpdjdffimighkaaW.PrintMore
set_option linter.unusedVariables false
set_option linter.unusedSimpArgs false
theorem new_ok {t : Nat} (ht : 1 ≤ t ∧ t ≤ 3) (w : World) : Calls Try.prog 16 #[.int .i64 (t : Int)] w fun e w' => e = .returned (.tuple #[.pointer (some ⟨w.heap.size, 0, none⟩), .int .i64 0]) ∧ w' = w.alloc (.cells (blk t 0 0 (.slice none 0 0)) 65) := by
  have h1 : ¬ (t : Int) < 1 := by omega
  have h2 : ¬ (3 : Int) < (t : Int) := by omega
  go_enter Try.func16, Try.ntmps16
  go_wp2
  go_ret2
  exact ⟨rfl, rfl⟩
set_option maxRecDepth 100000 in
set_option maxHeartbeats 1600000 in
theorem look_no1_0 (b : Nat) (q p l : Int) (w : World) (hc : w.cell? ⟨b, 0, none⟩ = some (.int .i64 1))  (h : q < 0) :
    Calls Try.prog 23 #[.pointer (some ⟨b, 0, none⟩), .int .i64 q, .int .i64 p, .int .i64 l] w fun e w' => e = .returned (.tuple #[.int .i64 0, .int .i64 0, .int .i64 1]) ∧ ∃ n, w' = w.drewN n := by
  have hd : decide (q < 0) = true := by simpa using h
  go_enter Try.func23, Try.ntmps23
  go_wp2
  go_quiet (fail)
  go_wp2
  go_ret3
  exact ⟨rfl, _, rfl⟩
set_option maxRecDepth 100000 in
set_option maxHeartbeats 1600000 in
theorem look_no1_1 (b : Nat) (q p l : Int) (w : World) (hc : w.cell? ⟨b, 0, none⟩ = some (.int .i64 1)) (g0 : ¬ q < 0) (h : 2 ≤ q) :
    Calls Try.prog 23 #[.pointer (some ⟨b, 0, none⟩), .int .i64 q, .int .i64 p, .int .i64 l] w fun e w' => e = .returned (.tuple #[.int .i64 0, .int .i64 0, .int .i64 1]) ∧ ∃ n, w' = w.drewN n := by
  have f0 : decide (q < 0) = false := by simpa using g0
  have hd : decide (2 ≤ q) = true := by simpa using h
  go_enter Try.func23, Try.ntmps23
  go_wp2
  go_quiet (fail)
  go_wp2
  go_ret3
  exact ⟨rfl, _, rfl⟩
set_option maxRecDepth 100000 in
set_option maxHeartbeats 1600000 in
theorem look_no1_2 (b : Nat) (q p l : Int) (w : World) (hc : w.cell? ⟨b, 0, none⟩ = some (.int .i64 1)) (g0 : ¬ q < 0) (g1 : ¬ 2 ≤ q) (h : p < 0) :
    Calls Try.prog 23 #[.pointer (some ⟨b, 0, none⟩), .int .i64 q, .int .i64 p, .int .i64 l] w fun e w' => e = .returned (.tuple #[.int .i64 0, .int .i64 0, .int .i64 1]) ∧ ∃ n, w' = w.drewN n := by
  have f0 : decide (q < 0) = false := by simpa using g0
  have f1 : decide (2 ≤ q) = false := by simpa using g1
  have hd : decide (p < 0) = true := by simpa using h
  go_enter Try.func23, Try.ntmps23
  go_wp2
  go_quiet (fail)
  go_wp2
  go_ret3
  exact ⟨rfl, _, rfl⟩
set_option maxRecDepth 100000 in
set_option maxHeartbeats 1600000 in
theorem look_no1_3 (b : Nat) (q p l : Int) (w : World) (hc : w.cell? ⟨b, 0, none⟩ = some (.int .i64 1)) (g0 : ¬ q < 0) (g1 : ¬ 2 ≤ q) (g2 : ¬ p < 0) (h : 2 ≤ p) :
    Calls Try.prog 23 #[.pointer (some ⟨b, 0, none⟩), .int .i64 q, .int .i64 p, .int .i64 l] w fun e w' => e = .returned (.tuple #[.int .i64 0, .int .i64 0, .int .i64 1]) ∧ ∃ n, w' = w.drewN n := by
  have f0 : decide (q < 0) = false := by simpa using g0
  have f1 : decide (2 ≤ q) = false := by simpa using g1
  have f2 : decide (p < 0) = false := by simpa using g2
  have hd : decide (2 ≤ p) = true := by simpa using h
  go_enter Try.func23, Try.ntmps23
  go_wp2
  go_quiet (fail)
  go_wp2
  go_ret3
  exact ⟨rfl, _, rfl⟩
set_option maxRecDepth 100000 in
set_option maxHeartbeats 1600000 in
theorem look_no1_4 (b : Nat) (q p l : Int) (w : World) (hc : w.cell? ⟨b, 0, none⟩ = some (.int .i64 1)) (g0 : ¬ q < 0) (g1 : ¬ 2 ≤ q) (g2 : ¬ p < 0) (g3 : ¬ 2 ≤ p) (h : l < 0) :
    Calls Try.prog 23 #[.pointer (some ⟨b, 0, none⟩), .int .i64 q, .int .i64 p, .int .i64 l] w fun e w' => e = .returned (.tuple #[.int .i64 0, .int .i64 0, .int .i64 1]) ∧ ∃ n, w' = w.drewN n := by
  have f0 : decide (q < 0) = false := by simpa using g0
  have f1 : decide (2 ≤ q) = false := by simpa using g1
  have f2 : decide (p < 0) = false := by simpa using g2
  have f3 : decide (2 ≤ p) = false := by simpa using g3
  have hd : decide (l < 0) = true := by simpa using h
  go_enter Try.func23, Try.ntmps23
  go_wp2
  go_quiet (fail)
  go_wp2
  go_ret3
  exact ⟨rfl, _, rfl⟩
set_option maxRecDepth 100000 in
set_option maxHeartbeats 1600000 in
theorem look_no1_5 (b : Nat) (q p l : Int) (w : World) (hc : w.cell? ⟨b, 0, none⟩ = some (.int .i64 1)) (g0 : ¬ q < 0) (g1 : ¬ 2 ≤ q) (g2 : ¬ p < 0) (g3 : ¬ 2 ≤ p) (g4 : ¬ l < 0) (h : 2 ≤ l) :
    Calls Try.prog 23 #[.pointer (some ⟨b, 0, none⟩), .int .i64 q, .int .i64 p, .int .i64 l] w fun e w' => e = .returned (.tuple #[.int .i64 0, .int .i64 0, .int .i64 1]) ∧ ∃ n, w' = w.drewN n := by
  have f0 : decide (q < 0) = false := by simpa using g0
  have f1 : decide (2 ≤ q) = false := by simpa using g1
  have f2 : decide (p < 0) = false := by simpa using g2
  have f3 : decide (2 ≤ p) = false := by simpa using g3
  have f4 : decide (l < 0) = false := by simpa using g4
  have hd : decide (2 ≤ l) = true := by simpa using h
  go_enter Try.func23, Try.ntmps23
  go_wp2
  go_quiet (fail)
  go_wp2
  go_ret3
  exact ⟨rfl, _, rfl⟩
set_option maxRecDepth 100000 in
set_option maxHeartbeats 1600000 in
theorem look_no2_0 (b : Nat) (q p l : Int) (w : World) (hc : w.cell? ⟨b, 0, none⟩ = some (.int .i64 2))  (h : q < 0) :
    Calls Try.prog 23 #[.pointer (some ⟨b, 0, none⟩), .int .i64 q, .int .i64 p, .int .i64 l] w fun e w' => e = .returned (.tuple #[.int .i64 0, .int .i64 0, .int .i64 1]) ∧ ∃ n, w' = w.drewN n := by
  have hd : decide (q < 0) = true := by simpa using h
  go_enter Try.func23, Try.ntmps23
  go_wp2
  go_quiet (fail)
  go_wp2
  go_ret3
  exact ⟨rfl, _, rfl⟩
set_option maxRecDepth 100000 in
set_option maxHeartbeats 1600000 in
theorem look_no2_1 (b : Nat) (q p l : Int) (w : World) (hc : w.cell? ⟨b, 0, none⟩ = some (.int .i64 2)) (g0 : ¬ q < 0) (h : 16 ≤ q) :
    Calls Try.prog 23 #[.pointer (some ⟨b, 0, none⟩), .int .i64 q, .int .i64 p, .int .i64 l] w fun e w' => e = .returned (.tuple #[.int .i64 0, .int .i64 0, .int .i64 1]) ∧ ∃ n, w' = w.drewN n := by
  have f0 : decide (q < 0) = false := by simpa using g0
  have hd : decide (16 ≤ q) = true := by simpa using h
  go_enter Try.func23, Try.ntmps23
  go_wp2
  go_quiet (fail)
  go_wp2
  go_ret3
  exact ⟨rfl, _, rfl⟩
set_option maxRecDepth 100000 in
set_option maxHeartbeats 1600000 in
theorem look_no2_2 (b : Nat) (q p l : Int) (w : World) (hc : w.cell? ⟨b, 0, none⟩ = some (.int .i64 2)) (g0 : ¬ q < 0) (g1 : ¬ 16 ≤ q) (h : p < 0) :
    Calls Try.prog 23 #[.pointer (some ⟨b, 0, none⟩), .int .i64 q, .int .i64 p, .int .i64 l] w fun e w' => e = .returned (.tuple #[.int .i64 0, .int .i64 0, .int .i64 1]) ∧ ∃ n, w' = w.drewN n := by
  have f0 : decide (q < 0) = false := by simpa using g0
  have f1 : decide (16 ≤ q) = false := by simpa using g1
  have hd : decide (p < 0) = true := by simpa using h
  go_enter Try.func23, Try.ntmps23
  go_wp2
  go_quiet (fail)
  go_wp2
  go_ret3
  exact ⟨rfl, _, rfl⟩
set_option maxRecDepth 100000 in
set_option maxHeartbeats 1600000 in
theorem look_no2_3 (b : Nat) (q p l : Int) (w : World) (hc : w.cell? ⟨b, 0, none⟩ = some (.int .i64 2)) (g0 : ¬ q < 0) (g1 : ¬ 16 ≤ q) (g2 : ¬ p < 0) (h : 4 ≤ p) :
    Calls Try.prog 23 #[.pointer (some ⟨b, 0, none⟩), .int .i64 q, .int .i64 p, .int .i64 l] w fun e w' => e = .returned (.tuple #[.int .i64 0, .int .i64 0, .int .i64 1]) ∧ ∃ n, w' = w.drewN n := by
  have f0 : decide (q < 0) = false := by simpa using g0
  have f1 : decide (16 ≤ q) = false := by simpa using g1
  have f2 : decide (p < 0) = false := by simpa using g2
  have hd : decide (4 ≤ p) = true := by simpa using h
  go_enter Try.func23, Try.ntmps23
  go_wp2
  go_quiet (fail)
  go_wp2
  go_ret3
  exact ⟨rfl, _, rfl⟩
set_option maxRecDepth 100000 in
set_option maxHeartbeats 1600000 in
theorem look_no2_4 (b : Nat) (q p l : Int) (w : World) (hc : w.cell? ⟨b, 0, none⟩ = some (.int .i64 2)) (g0 : ¬ q < 0) (g1 : ¬ 16 ≤ q) (g2 : ¬ p < 0) (g3 : ¬ 4 ≤ p) (h : l < 0) :
    Calls Try.prog 23 #[.pointer (some ⟨b, 0, none⟩), .int .i64 q, .int .i64 p, .int .i64 l] w fun e w' => e = .returned (.tuple #[.int .i64 0, .int .i64 0, .int .i64 1]) ∧ ∃ n, w' = w.drewN n := by
  have f0 : decide (q < 0) = false := by simpa using g0
  have f1 : decide (16 ≤ q) = false := by simpa using g1
  have f2 : decide (p < 0) = false := by simpa using g2
  have f3 : decide (4 ≤ p) = false := by simpa using g3
  have hd : decide (l < 0) = true := by simpa using h
  go_enter Try.func23, Try.ntmps23
  go_wp2
  go_quiet (fail)
  go_wp2
  go_ret3
  exact ⟨rfl, _, rfl⟩
set_option maxRecDepth 100000 in
set_option maxHeartbeats 1600000 in
theorem look_no2_5 (b : Nat) (q p l : Int) (w : World) (hc : w.cell? ⟨b, 0, none⟩ = some (.int .i64 2)) (g0 : ¬ q < 0) (g1 : ¬ 16 ≤ q) (g2 : ¬ p < 0) (g3 : ¬ 4 ≤ p) (g4 : ¬ l < 0) (h : 4 ≤ l) :
    Calls Try.prog 23 #[.pointer (some ⟨b, 0, none⟩), .int .i64 q, .int .i64 p, .int .i64 l] w fun e w' => e = .returned (.tuple #[.int .i64 0, .int .i64 0, .int .i64 1]) ∧ ∃ n, w' = w.drewN n := by
  have f0 : decide (q < 0) = false := by simpa using g0
  have f1 : decide (16 ≤ q) = false := by simpa using g1
  have f2 : decide (p < 0) = false := by simpa using g2
  have f3 : decide (4 ≤ p) = false := by simpa using g3
  have f4 : decide (l < 0) = false := by simpa using g4
  have hd : decide (4 ≤ l) = true := by simpa using h
  go_enter Try.func23, Try.ntmps23
  go_wp2
  go_quiet (fail)
  go_wp2
  go_ret3
  exact ⟨rfl, _, rfl⟩
set_option maxRecDepth 100000 in
set_option maxHeartbeats 1600000 in
theorem look_no3_0 (b : Nat) (q p l : Int) (w : World) (hc : w.cell? ⟨b, 0, none⟩ = some (.int .i64 3))  (h : q < 0) :
    Calls Try.prog 23 #[.pointer (some ⟨b, 0, none⟩), .int .i64 q, .int .i64 p, .int .i64 l] w fun e w' => e = .returned (.tuple #[.int .i64 0, .int .i64 0, .int .i64 1]) ∧ ∃ n, w' = w.drewN n := by
  have hd : decide (q < 0) = true := by simpa using h
  go_enter Try.func23, Try.ntmps23
  go_wp2
  go_quiet (fail)
  go_wp2
  go_ret3
  exact ⟨rfl, _, rfl⟩
set_option maxRecDepth 100000 in
set_option maxHeartbeats 1600000 in
theorem look_no3_1 (b : Nat) (q p l : Int) (w : World) (hc : w.cell? ⟨b, 0, none⟩ = some (.int .i64 3)) (g0 : ¬ q < 0) (h : 512 ≤ q) :
    Calls Try.prog 23 #[.pointer (some ⟨b, 0, none⟩), .int .i64 q, .int .i64 p, .int .i64 l] w fun e w' => e = .returned (.tuple #[.int .i64 0, .int .i64 0, .int .i64 1]) ∧ ∃ n, w' = w.drewN n := by
  have f0 : decide (q < 0) = false := by simpa using g0
  have hd : decide (512 ≤ q) = true := by simpa using h
  go_enter Try.func23, Try.ntmps23
  go_wp2
  go_quiet (fail)
  go_wp2
  go_ret3
  exact ⟨rfl, _, rfl⟩
set_option maxRecDepth 100000 in
set_option maxHeartbeats 1600000 in
theorem look_no3_2 (b : Nat) (q p l : Int) (w : World) (hc : w.cell? ⟨b, 0, none⟩ = some (.int .i64 3)) (g0 : ¬ q < 0) (g1 : ¬ 512 ≤ q) (h : p < 0) :
    Calls Try.prog 23 #[.pointer (some ⟨b, 0, none⟩), .int .i64 q, .int .i64 p, .int .i64 l] w fun e w' => e = .returned (.tuple #[.int .i64 0, .int .i64 0, .int .i64 1]) ∧ ∃ n, w' = w.drewN n := by
  have f0 : decide (q < 0) = false := by simpa using g0
  have f1 : decide (512 ≤ q) = false := by simpa using g1
  have hd : decide (p < 0) = true := by simpa using h
  go_enter Try.func23, Try.ntmps23
  go_wp2
  go_quiet (fail)
  go_wp2
  go_ret3
  exact ⟨rfl, _, rfl⟩
set_option maxRecDepth 100000 in
set_option maxHeartbeats 1600000 in
theorem look_no3_3 (b : Nat) (q p l : Int) (w : World) (hc : w.cell? ⟨b, 0, none⟩ = some (.int .i64 3)) (g0 : ¬ q < 0) (g1 : ¬ 512 ≤ q) (g2 : ¬ p < 0) (h : 8 ≤ p) :
    Calls Try.prog 23 #[.pointer (some ⟨b, 0, none⟩), .int .i64 q, .int .i64 p, .int .i64 l] w fun e w' => e = .returned (.tuple #[.int .i64 0, .int .i64 0, .int .i64 1]) ∧ ∃ n, w' = w.drewN n := by
  have f0 : decide (q < 0) = false := by simpa using g0
  have f1 : decide (512 ≤ q) = false := by simpa using g1
  have f2 : decide (p < 0) = false := by simpa using g2
  have hd : decide (8 ≤ p) = true := by simpa using h
  go_enter Try.func23, Try.ntmps23
  go_wp2
  go_quiet (fail)
  go_wp2
  go_ret3
  exact ⟨rfl, _, rfl⟩
set_option maxRecDepth 100000 in
set_option maxHeartbeats 1600000 in
theorem look_no3_4 (b : Nat) (q p l : Int) (w : World) (hc : w.cell? ⟨b, 0, none⟩ = some (.int .i64 3)) (g0 : ¬ q < 0) (g1 : ¬ 512 ≤ q) (g2 : ¬ p < 0) (g3 : ¬ 8 ≤ p) (h : l < 0) :
    Calls Try.prog 23 #[.pointer (some ⟨b, 0, none⟩), .int .i64 q, .int .i64 p, .int .i64 l] w fun e w' => e = .returned (.tuple #[.int .i64 0, .int .i64 0, .int .i64 1]) ∧ ∃ n, w' = w.drewN n := by
  have f0 : decide (q < 0) = false := by simpa using g0
  have f1 : decide (512 ≤ q) = false := by simpa using g1
  have f2 : decide (p < 0) = false := by simpa using g2
  have f3 : decide (8 ≤ p) = false := by simpa using g3
  have hd : decide (l < 0) = true := by simpa using h
  go_enter Try.func23, Try.ntmps23
  go_wp2
  go_quiet (fail)
  go_wp2
  go_ret3
  exact ⟨rfl, _, rfl⟩
set_option maxRecDepth 100000 in
set_option maxHeartbeats 1600000 in
theorem look_no3_5 (b : Nat) (q p l : Int) (w : World) (hc : w.cell? ⟨b, 0, none⟩ = some (.int .i64 3)) (g0 : ¬ q < 0) (g1 : ¬ 512 ≤ q) (g2 : ¬ p < 0) (g3 : ¬ 8 ≤ p) (g4 : ¬ l < 0) (h : 8 ≤ l) :
    Calls Try.prog 23 #[.pointer (some ⟨b, 0, none⟩), .int .i64 q, .int .i64 p, .int .i64 l] w fun e w' => e = .returned (.tuple #[.int .i64 0, .int .i64 0, .int .i64 1]) ∧ ∃ n, w' = w.drewN n := by
  have f0 : decide (q < 0) = false := by simpa using g0
  have f1 : decide (512 ≤ q) = false := by simpa using g1
  have f2 : decide (p < 0) = false := by simpa using g2
  have f3 : decide (8 ≤ p) = false := by simpa using g3
  have f4 : decide (l < 0) = false := by simpa using g4
  have hd : decide (8 ≤ l) = true := by simpa using h
  go_enter Try.func23, Try.ntmps23
  go_wp2
  go_quiet (fail)
  go_wp2
  go_ret3
  exact ⟨rfl, _, rfl⟩
theorem look_no {b t : Nat} (ht : 1 ≤ t ∧ t ≤ 3) (q p l : Int) (w : World) (hc : w.cell? ⟨b, 0, none⟩ = some (.int .i64 (t : Int))) (h : ¬ (0 ≤ q ∧ q < 2 ^ (t * t) ∧ 0 ≤ p ∧ p < 2 ^ t ∧ 0 ≤ l ∧ l < 2 ^ t)) :
    Calls Try.prog 23 #[.pointer (some ⟨b, 0, none⟩), .int .i64 q, .int .i64 p, .int .i64 l] w fun e w' => e = .returned (.tuple #[.int .i64 0, .int .i64 0, .int .i64 1]) ∧ ∃ n, w' = w.drewN n := by
  have e : t = 1 ∨ t = 2 ∨ t = 3 := by omega
  rcases e with rfl | rfl | rfl
  · have h : ¬ (0 ≤ q ∧ q < 2 ∧ 0 ≤ p ∧ p < 2 ∧ 0 ≤ l ∧ l < 2) := h
    by_cases g0 : q < 0
    · exact look_no1_0 b q p l w hc g0
    by_cases g1 : 2 ≤ q
    · exact look_no1_1 b q p l w hc g0 g1
    by_cases g2 : p < 0
    · exact look_no1_2 b q p l w hc g0 g1 g2
    by_cases g3 : 2 ≤ p
    · exact look_no1_3 b q p l w hc g0 g1 g2 g3
    by_cases g4 : l < 0
    · exact look_no1_4 b q p l w hc g0 g1 g2 g3 g4
    exact look_no1_5 b q p l w hc g0 g1 g2 g3 g4 (by omega)
  · have h : ¬ (0 ≤ q ∧ q < 16 ∧ 0 ≤ p ∧ p < 4 ∧ 0 ≤ l ∧ l < 4) := h
    by_cases g0 : q < 0
    · exact look_no2_0 b q p l w hc g0
    by_cases g1 : 16 ≤ q
    · exact look_no2_1 b q p l w hc g0 g1
    by_cases g2 : p < 0
    · exact look_no2_2 b q p l w hc g0 g1 g2
    by_cases g3 : 4 ≤ p
    · exact look_no2_3 b q p l w hc g0 g1 g2 g3
    by_cases g4 : l < 0
    · exact look_no2_4 b q p l w hc g0 g1 g2 g3 g4
    exact look_no2_5 b q p l w hc g0 g1 g2 g3 g4 (by omega)
  · have h : ¬ (0 ≤ q ∧ q < 512 ∧ 0 ≤ p ∧ p < 8 ∧ 0 ≤ l ∧ l < 8) := h
    by_cases g0 : q < 0
    · exact look_no3_0 b q p l w hc g0
    by_cases g1 : 512 ≤ q
    · exact look_no3_1 b q p l w hc g0 g1
    by_cases g2 : p < 0
    · exact look_no3_2 b q p l w hc g0 g1 g2
    by_cases g3 : 8 ≤ p
    · exact look_no3_3 b q p l w hc g0 g1 g2 g3
    by_cases g4 : l < 0
    · exact look_no3_4 b q p l w hc g0 g1 g2 g3 g4
    exact look_no3_5 b q p l w hc g0 g1 g2 g3 g4 (by omega)
theorem Ev.load5 {W : World} {p : Addr} {v : Value} (hc : W.cell? p = some v) : (Instr.loadAt 5 (.pointer (some p))).run Try.prog W = .ok v W := by
  go_simp
theorem pow_tt {t : Nat} (ht : 1 ≤ t ∧ t ≤ 3) : IntKind.i64.wrap (2 ^ (t * t)) = 2 ^ (t * t) := by
  have e : t = 1 ∨ t = 2 ∨ t = 3 := by omega
  rcases e with rfl | rfl | rfl <;> decide
set_option maxHeartbeats 2000000 in
theorem Rg.k0 {id : Nat} {Q : Exit → Act → World → Prop} {a : Act} {W : World} 
    (hsz : a.tmps.size = 90)  
    (hQ : ∀ a', Ev.Stay [8, 9, 10] a a' → Q .normal a' W) : (Code.region id (Rg.ops 23 0) false).wp Try.prog Q a W := by
  refine wp_region_list ?_
  show wpList _ _ _ (_ :: _ :: _ :: []) _ _
  have k0 : Ev.Stay [8, 9, 10] a a := Ev.Stay.refl [8, 9, 10] a
  refine Ev.pv (N := 8) (v := .int .i64 (0)) (W' := W) ?_ rfl rfl ?_
  · have ec0 : a.eval (.const (.int .i64 (0))) = .int .i64 (0) := rfl
    unfold execOp
    generalize a.eval = ev at *
    go_simp
  obtain ⟨a1, qa1⟩ : ∃ z_, z_ = a.put (some 8) (.int .i64 (0)) := ⟨_, rfl⟩
  have k1 : Ev.Stay [8, 9, 10] a a1 := by rw [qa1]; exact k0.put (by decide) _
  have e1_8 := Ev.sam qa1 (by rw [k0.1, hsz]; decide)
  rw [← qa1]
  clear qa1 
  refine Ev.pv (N := 9) (v := .int .i64 (0)) (W' := W) ?_ rfl rfl ?_
  · have ec0 : a1.eval (.const (.int .i64 (0))) = .int .i64 (0) := rfl
    unfold execOp
    generalize a1.eval = ev at *
    go_simp
  obtain ⟨a2, qa2⟩ : ∃ z_, z_ = a1.put (some 9) (.int .i64 (0)) := ⟨_, rfl⟩
  have k2 : Ev.Stay [8, 9, 10] a a2 := by rw [qa2]; exact k1.put (by decide) _
  have e2_8 := Ev.oth qa2 (by decide) e1_8
  have e2_9 := Ev.sam qa2 (by rw [k1.1, hsz]; decide)
  rw [← qa2]
  clear qa2 e1_8
  refine Ev.pv (N := 10) (v := .int .i64 (0)) (W' := W) ?_ rfl rfl ?_
  · have ec0 : a2.eval (.const (.int .i64 (0))) = .int .i64 (0) := rfl
    unfold execOp
    generalize a2.eval = ev at *
    go_simp
  obtain ⟨a3, qa3⟩ : ∃ z_, z_ = a2.put (some 10) (.int .i64 (0)) := ⟨_, rfl⟩
  have k3 : Ev.Stay [8, 9, 10] a a3 := by rw [qa3]; exact k2.put (by decide) _
  have e3_8 := Ev.oth qa3 (by decide) e2_8
  have e3_9 := Ev.oth qa3 (by decide) e2_9
  have e3_10 := Ev.sam qa3 (by rw [k2.1, hsz]; decide)
  rw [← qa3]
  clear qa3 e2_8 e2_9
  exact hQ _ k3
set_option maxHeartbeats 2000000 in
theorem Rg.k5 {id : Nat} {Q : Exit → Act → World → Prop} {a : Act} {W : World} {b t g N x : Nat} {d s q p l q1 q2 q3 y : Int}
    (hsz : a.tmps.size = 90) (hP : ∀ c a a' w, a'.defers = a.defers → Q (.panic c) a w → Q (.panic c) a' w)  (h0 : a.eval (.tmp 0) = .pointer (some ⟨b, 0, none⟩)) (h1 : a.eval (.tmp 1) = .int .i64 (q)) (h2 : a.eval (.tmp 2) = .int .i64 (p)) (h3 : a.eval (.tmp 3) = .int .i64 (l)) (ht : 1 ≤ t ∧ t ≤ 3) (hb : W.drew.heap[b]? = some (.cells (blk t d s (.slice (some ⟨g, 0, none⟩) N N)) 65 (0, 0))) (hcg : W.drew.cell? ⟨g, x, none⟩ = some (.int .u8 y)) (hx : x < N) (i1 : IntKind.i64.wrap (q * 2 ^ t) = q1) (i2 : bits .or .i64 q1 p = q2) (i3 : IntKind.i64.wrap (q2 * 2 ^ t) = q3) (i4 : bits .or .i64 q3 l = (x : Int)) (hy : IntKind.i64.wrap y = y)
    (hQ : ∀ a', Ev.Stay [12, 58, 59, 60, 61, 62, 63, 64, 65, 66, 67, 68, 69, 70, 71, 72, 73, 74, 75, 76, 77, 78, 79] a a' → a'.eval (.tmp 12) = .int .i64 y → Q .normal a' W.drew) : (Code.region id (Rg.ops 23 5) true).wp Try.prog Q a W := by
  have hops : Rg.ops 23 5 = List.toArray [_, _, _, _, _, _, _, _, _, _, _, _, _, _, _, _, _, _, _, _, _, _, _] := rfl
  refine start_ (S := fun w_ => w_.heap[b]? = some (.cells (blk t d s (.slice (some ⟨g, 0, none⟩) N N)) 65 (0, 0)) ∧ w_.cell? ⟨g, x, none⟩ = some (.int .u8 y)) (ds := []) #[false, false, false, false, false, false, false, false, false, false, false, false, false, false, false, false, false, false, false, false, false, false, false] (by kernel_rfl) (n := 23) rfl rfl ?S0 (fun hHeld => ?_)
  case S0 => exact ⟨hb, hcg⟩
  have k0 : Ev.Stay [12, 58, 59, 60, 61, 62, 63, 64, 65, 66, 67, 68, 69, 70, 71, 72, 73, 74, 75, 76, 77, 78, 79] a a := Ev.Stay.refl [12, 58, 59, 60, 61, 62, 63, 64, 65, 66, 67, 68, 69, 70, 71, 72, 73, 74, 75, 76, 77, 78, 79] a
  refine pure_ (i := 0) (N := some 58) (v := .pointer (some ⟨b, 0, none⟩)) #[true, false, false, false, false, false, false, false, false, false, false, false, false, false, false, false, false, false, false, false, false, false, false] (Rg.of hops Rg.at0) rfl (by kernel_rfl) (fun c _ _ h => hP c _ _ _ (by rfl) h) (Or.inl ⟨Ev.wanted rfl, fun w_ => ?_⟩) rfl ?_
  · unfold execOp
    generalize a.eval = ev at *
    go_simp
  obtain ⟨a1, qa1⟩ : ∃ z_, z_ = a.put (some 58) (.pointer (some ⟨b, 0, none⟩)) := ⟨_, rfl⟩
  have k1 : Ev.Stay [12, 58, 59, 60, 61, 62, 63, 64, 65, 66, 67, 68, 69, 70, 71, 72, 73, 74, 75, 76, 77, 78, 79] a a1 := by rw [qa1]; exact k0.put (by decide) _
  have e1_0 := Ev.oth qa1 (by decide) h0
  have e1_1 := Ev.oth qa1 (by decide) h1
  have e1_2 := Ev.oth qa1 (by decide) h2
  have e1_3 := Ev.oth qa1 (by decide) h3
  have e1_58 := Ev.sam qa1 (by rw [k0.1, hsz]; decide)
  rw [← qa1]
  clear qa1 
  refine pure_ (i := 1) (N := some 59) (v := .pointer (some ⟨b, 0, none⟩)) #[true, true, false, false, false, false, false, false, false, false, false, false, false, false, false, false, false, false, false, false, false, false, false] (Rg.of hops (Rg.atS Rg.at0)) rfl (by kernel_rfl) (fun c _ _ h => hP c _ _ _ (by rfl) h) (Or.inl ⟨Ev.wanted rfl, fun w_ => ?_⟩) rfl ?_
  · unfold execOp
    generalize a1.eval = ev at *
    go_simp
  obtain ⟨a2, qa2⟩ : ∃ z_, z_ = a1.put (some 59) (.pointer (some ⟨b, 0, none⟩)) := ⟨_, rfl⟩
  have k2 : Ev.Stay [12, 58, 59, 60, 61, 62, 63, 64, 65, 66, 67, 68, 69, 70, 71, 72, 73, 74, 75, 76, 77, 78, 79] a a2 := by rw [qa2]; exact k1.put (by decide) _
  have e2_0 := Ev.oth qa2 (by decide) e1_0
  have e2_1 := Ev.oth qa2 (by decide) e1_1
  have e2_2 := Ev.oth qa2 (by decide) e1_2
  have e2_3 := Ev.oth qa2 (by decide) e1_3
  have e2_58 := Ev.oth qa2 (by decide) e1_58
  have e2_59 := Ev.sam qa2 (by rw [k1.1, hsz]; decide)
  rw [← qa2]
  clear qa2 e1_0 e1_1 e1_2 e1_3 e1_58
  clear e2_58
  refine pure_ (i := 2) (N := some 60) (v := .pointer (some ⟨b, 4, none⟩)) #[true, true, true, false, false, false, false, false, false, false, false, false, false, false, false, false, false, false, false, false, false, false, false] (Rg.of hops (Rg.atS (Rg.atS Rg.at0))) rfl (by kernel_rfl) (fun c _ _ h => hP c _ _ _ (by rfl) h) (Or.inl ⟨Ev.wanted rfl, fun w_ => ?_⟩) rfl ?_
  · unfold execOp
    generalize a2.eval = ev at *
    go_simp
  obtain ⟨a3, qa3⟩ : ∃ z_, z_ = a2.put (some 60) (.pointer (some ⟨b, 4, none⟩)) := ⟨_, rfl⟩
  have k3 : Ev.Stay [12, 58, 59, 60, 61, 62, 63, 64, 65, 66, 67, 68, 69, 70, 71, 72, 73, 74, 75, 76, 77, 78, 79] a a3 := by rw [qa3]; exact k2.put (by decide) _
  have e3_0 := Ev.oth qa3 (by decide) e2_0
  have e3_1 := Ev.oth qa3 (by decide) e2_1
  have e3_2 := Ev.oth qa3 (by decide) e2_2
  have e3_3 := Ev.oth qa3 (by decide) e2_3
  have e3_59 := Ev.oth qa3 (by decide) e2_59
  have e3_60 := Ev.sam qa3 (by rw [k2.1, hsz]; decide)
  rw [← qa3]
  clear qa3 e2_0 e2_1 e2_2 e2_3 e2_59
  clear e3_59
  refine take_ (i := 3) (N := some 61) (v := .slice (some ⟨g, 0, none⟩) N N) #[true, true, true, true, false, false, false, false, false, false, false, false, false, false, false, false, false, false, false, false, false, false, false] (Rg.of hops (Rg.atS (Rg.atS (Rg.atS Rg.at0)))) rfl (by kernel_rfl) (fun c _ _ h => hP c _ _ _ (by rfl) h) (Ev.loadW (Ev.wanted rfl) rfl e3_60 (fun w hw => Ev.load50 (blk_all hw.1))) hHeld rfl ?_
  obtain ⟨a4, qa4⟩ : ∃ z_, z_ = a3.put (some 61) (.slice (some ⟨g, 0, none⟩) N N) := ⟨_, rfl⟩
  have k4 : Ev.Stay [12, 58, 59, 60, 61, 62, 63, 64, 65, 66, 67, 68, 69, 70, 71, 72, 73, 74, 75, 76, 77, 78, 79] a a4 := by rw [qa4]; exact k3.put (by decide) _
  have e4_0 := Ev.oth qa4 (by decide) e3_0
  have e4_1 := Ev.oth qa4 (by decide) e3_1
  have e4_2 := Ev.oth qa4 (by decide) e3_2
  have e4_3 := Ev.oth qa4 (by decide) e3_3
  have e4_60 := Ev.oth qa4 (by decide) e3_60
  have e4_61 := Ev.sam qa4 (by rw [k3.1, hsz]; decide)
  rw [← qa4]
  clear qa4 e3_0 e3_1 e3_2 e3_3 e3_60
  clear e4_60
  refine pure_ (i := 4) (N := some 62) (v := .int .i64 (q)) #[true, true, true, true, true, false, false, false, false, false, false, false, false, false, false, false, false, false, false, false, false, false, false] (Rg.of hops (Rg.atS (Rg.atS (Rg.atS (Rg.atS Rg.at0))))) rfl (by kernel_rfl) (fun c _ _ h => hP c _ _ _ (by rfl) h) (Or.inl ⟨Ev.wanted rfl, fun w_ => ?_⟩) rfl ?_
  · unfold execOp
    generalize a4.eval = ev at *
    go_simp
  obtain ⟨a5, qa5⟩ : ∃ z_, z_ = a4.put (some 62) (.int .i64 (q)) := ⟨_, rfl⟩
  have k5 : Ev.Stay [12, 58, 59, 60, 61, 62, 63, 64, 65, 66, 67, 68, 69, 70, 71, 72, 73, 74, 75, 76, 77, 78, 79] a a5 := by rw [qa5]; exact k4.put (by decide) _
  have e5_0 := Ev.oth qa5 (by decide) e4_0
  have e5_1 := Ev.oth qa5 (by decide) e4_1
  have e5_2 := Ev.oth qa5 (by decide) e4_2
  have e5_3 := Ev.oth qa5 (by decide) e4_3
  have e5_61 := Ev.oth qa5 (by decide) e4_61
  have e5_62 := Ev.sam qa5 (by rw [k4.1, hsz]; decide)
  rw [← qa5]
  clear qa5 e4_0 e4_1 e4_2 e4_3 e4_61
  refine pure_ (i := 5) (N := some 63) (v := .pointer (some ⟨b, 0, none⟩)) #[true, true, true, true, true, true, false, false, false, false, false, false, false, false, false, false, false, false, false, false, false, false, false] (Rg.of hops (Rg.atS (Rg.atS (Rg.atS (Rg.atS (Rg.atS Rg.at0)))))) rfl (by kernel_rfl) (fun c _ _ h => hP c _ _ _ (by rfl) h) (Or.inl ⟨Ev.wanted rfl, fun w_ => ?_⟩) rfl ?_
  · unfold execOp
    generalize a5.eval = ev at *
    go_simp
  obtain ⟨a6, qa6⟩ : ∃ z_, z_ = a5.put (some 63) (.pointer (some ⟨b, 0, none⟩)) := ⟨_, rfl⟩
  have k6 : Ev.Stay [12, 58, 59, 60, 61, 62, 63, 64, 65, 66, 67, 68, 69, 70, 71, 72, 73, 74, 75, 76, 77, 78, 79] a a6 := by rw [qa6]; exact k5.put (by decide) _
  have e6_0 := Ev.oth qa6 (by decide) e5_0
  have e6_1 := Ev.oth qa6 (by decide) e5_1
  have e6_2 := Ev.oth qa6 (by decide) e5_2
  have e6_3 := Ev.oth qa6 (by decide) e5_3
  have e6_61 := Ev.oth qa6 (by decide) e5_61
  have e6_62 := Ev.oth qa6 (by decide) e5_62
  have e6_63 := Ev.sam qa6 (by rw [k5.1, hsz]; decide)
  rw [← qa6]
  clear qa6 e5_0 e5_1 e5_2 e5_3 e5_61 e5_62
  refine pure_ (i := 6) (N := some 64) (v := .pointer (some ⟨b, 0, none⟩)) #[true, true, true, true, true, true, true, false, false, false, false, false, false, false, false, false, false, false, false, false, false, false, false] (Rg.of hops (Rg.atS (Rg.atS (Rg.atS (Rg.atS (Rg.atS (Rg.atS Rg.at0))))))) rfl (by kernel_rfl) (fun c _ _ h => hP c _ _ _ (by rfl) h) (Or.inl ⟨Ev.wanted rfl, fun w_ => ?_⟩) rfl ?_
  · unfold execOp
    generalize a6.eval = ev at *
    go_simp
  obtain ⟨a7, qa7⟩ : ∃ z_, z_ = a6.put (some 64) (.pointer (some ⟨b, 0, none⟩)) := ⟨_, rfl⟩
  have k7 : Ev.Stay [12, 58, 59, 60, 61, 62, 63, 64, 65, 66, 67, 68, 69, 70, 71, 72, 73, 74, 75, 76, 77, 78, 79] a a7 := by rw [qa7]; exact k6.put (by decide) _
  have e7_0 := Ev.oth qa7 (by decide) e6_0
  have e7_1 := Ev.oth qa7 (by decide) e6_1
  have e7_2 := Ev.oth qa7 (by decide) e6_2
  have e7_3 := Ev.oth qa7 (by decide) e6_3
  have e7_61 := Ev.oth qa7 (by decide) e6_61
  have e7_62 := Ev.oth qa7 (by decide) e6_62
  have e7_63 := Ev.oth qa7 (by decide) e6_63
  have e7_64 := Ev.sam qa7 (by rw [k6.1, hsz]; decide)
  rw [← qa7]
  clear qa7 e6_0 e6_1 e6_2 e6_3 e6_61 e6_62 e6_63
  clear e7_63
  refine pure_ (i := 7) (N := some 65) (v := .pointer (some ⟨b, 0, none⟩)) #[true, true, true, true, true, true, true, true, false, false, false, false, false, false, false, false, false, false, false, false, false, false, false] (Rg.of hops (Rg.atS (Rg.atS (Rg.atS (Rg.atS (Rg.atS (Rg.atS (Rg.atS Rg.at0)))))))) rfl (by kernel_rfl) (fun c _ _ h => hP c _ _ _ (by rfl) h) (Or.inl ⟨Ev.wanted rfl, fun w_ => ?_⟩) rfl ?_
  · unfold execOp
    generalize a7.eval = ev at *
    go_simp
  obtain ⟨a8, qa8⟩ : ∃ z_, z_ = a7.put (some 65) (.pointer (some ⟨b, 0, none⟩)) := ⟨_, rfl⟩
  have k8 : Ev.Stay [12, 58, 59, 60, 61, 62, 63, 64, 65, 66, 67, 68, 69, 70, 71, 72, 73, 74, 75, 76, 77, 78, 79] a a8 := by rw [qa8]; exact k7.put (by decide) _
  have e8_0 := Ev.oth qa8 (by decide) e7_0
  have e8_1 := Ev.oth qa8 (by decide) e7_1
  have e8_2 := Ev.oth qa8 (by decide) e7_2
  have e8_3 := Ev.oth qa8 (by decide) e7_3
  have e8_61 := Ev.oth qa8 (by decide) e7_61
  have e8_62 := Ev.oth qa8 (by decide) e7_62
  have e8_64 := Ev.oth qa8 (by decide) e7_64
  have e8_65 := Ev.sam qa8 (by rw [k7.1, hsz]; decide)
  rw [← qa8]
  clear qa8 e7_0 e7_1 e7_2 e7_3 e7_61 e7_62 e7_64
  clear e8_64
  refine take_ (i := 8) (N := some 66) (v := .int .i64 (t : Int)) #[true, true, true, true, true, true, true, true, true, false, false, false, false, false, false, false, false, false, false, false, false, false, false] (Rg.of hops (Rg.atS (Rg.atS (Rg.atS (Rg.atS (Rg.atS (Rg.atS (Rg.atS (Rg.atS Rg.at0))))))))) rfl (by kernel_rfl) (fun c _ _ h => hP c _ _ _ (by rfl) h) (Ev.loadW (Ev.wanted rfl) rfl e8_65 (fun w hw => Ev.load3 (blk_t hw.1))) hHeld rfl ?_
  obtain ⟨a9, qa9⟩ : ∃ z_, z_ = a8.put (some 66) (.int .i64 (t : Int)) := ⟨_, rfl⟩
  have k9 : Ev.Stay [12, 58, 59, 60, 61, 62, 63, 64, 65, 66, 67, 68, 69, 70, 71, 72, 73, 74, 75, 76, 77, 78, 79] a a9 := by rw [qa9]; exact k8.put (by decide) _
  have e9_0 := Ev.oth qa9 (by decide) e8_0
  have e9_1 := Ev.oth qa9 (by decide) e8_1
  have e9_2 := Ev.oth qa9 (by decide) e8_2
  have e9_3 := Ev.oth qa9 (by decide) e8_3
  have e9_61 := Ev.oth qa9 (by decide) e8_61
  have e9_62 := Ev.oth qa9 (by decide) e8_62
  have e9_65 := Ev.oth qa9 (by decide) e8_65
  have e9_66 := Ev.sam qa9 (by rw [k8.1, hsz]; decide)
  rw [← qa9]
  clear qa9 e8_0 e8_1 e8_2 e8_3 e8_61 e8_62 e8_65
  clear e9_65
  refine pure_ (i := 9) (N := some 67) (v := .int .i64 (q1)) #[true, true, true, true, true, true, true, true, true, true, false, false, false, false, false, false, false, false, false, false, false, false, false] (Rg.of hops (Rg.atS (Rg.atS (Rg.atS (Rg.atS (Rg.atS (Rg.atS (Rg.atS (Rg.atS (Rg.atS Rg.at0)))))))))) rfl (by kernel_rfl) (fun c _ _ h => hP c _ _ _ (by rfl) h) (Or.inl ⟨Ev.wanted rfl, fun w_ => ?_⟩) rfl ?_
  · have l0_ : (0 : Int) ≤ (t : Int) := by omega
    have mn_ : min t 64 = t := by omega
    have h1_ := i1
    unfold execOp
    generalize a9.eval = ev at *
    go_simp
  obtain ⟨a10, qa10⟩ : ∃ z_, z_ = a9.put (some 67) (.int .i64 (q1)) := ⟨_, rfl⟩
  have k10 : Ev.Stay [12, 58, 59, 60, 61, 62, 63, 64, 65, 66, 67, 68, 69, 70, 71, 72, 73, 74, 75, 76, 77, 78, 79] a a10 := by rw [qa10]; exact k9.put (by decide) _
  have e10_0 := Ev.oth qa10 (by decide) e9_0
  have e10_1 := Ev.oth qa10 (by decide) e9_1
  have e10_2 := Ev.oth qa10 (by decide) e9_2
  have e10_3 := Ev.oth qa10 (by decide) e9_3
  have e10_61 := Ev.oth qa10 (by decide) e9_61
  have e10_62 := Ev.oth qa10 (by decide) e9_62
  have e10_66 := Ev.oth qa10 (by decide) e9_66
  have e10_67 := Ev.sam qa10 (by rw [k9.1, hsz]; decide)
  rw [← qa10]
  clear qa10 e9_0 e9_1 e9_2 e9_3 e9_61 e9_62 e9_66
  clear e10_62
  clear e10_66
  refine pure_ (i := 10) (N := some 68) (v := .int .i64 (p)) #[true, true, true, true, true, true, true, true, true, true, true, false, false, false, false, false, false, false, false, false, false, false, false] (Rg.of hops (Rg.atS (Rg.atS (Rg.atS (Rg.atS (Rg.atS (Rg.atS (Rg.atS (Rg.atS (Rg.atS (Rg.atS Rg.at0))))))))))) rfl (by kernel_rfl) (fun c _ _ h => hP c _ _ _ (by rfl) h) (Or.inl ⟨Ev.wanted rfl, fun w_ => ?_⟩) rfl ?_
  · unfold execOp
    generalize a10.eval = ev at *
    go_simp
  obtain ⟨a11, qa11⟩ : ∃ z_, z_ = a10.put (some 68) (.int .i64 (p)) := ⟨_, rfl⟩
  have k11 : Ev.Stay [12, 58, 59, 60, 61, 62, 63, 64, 65, 66, 67, 68, 69, 70, 71, 72, 73, 74, 75, 76, 77, 78, 79] a a11 := by rw [qa11]; exact k10.put (by decide) _
  have e11_0 := Ev.oth qa11 (by decide) e10_0
  have e11_1 := Ev.oth qa11 (by decide) e10_1
  have e11_2 := Ev.oth qa11 (by decide) e10_2
  have e11_3 := Ev.oth qa11 (by decide) e10_3
  have e11_61 := Ev.oth qa11 (by decide) e10_61
  have e11_67 := Ev.oth qa11 (by decide) e10_67
  have e11_68 := Ev.sam qa11 (by rw [k10.1, hsz]; decide)
  rw [← qa11]
  clear qa11 e10_0 e10_1 e10_2 e10_3 e10_61 e10_67
  refine pure_ (i := 11) (N := some 69) (v := .int .i64 (q2)) #[true, true, true, true, true, true, true, true, true, true, true, true, false, false, false, false, false, false, false, false, false, false, false] (Rg.of hops (Rg.atS (Rg.atS (Rg.atS (Rg.atS (Rg.atS (Rg.atS (Rg.atS (Rg.atS (Rg.atS (Rg.atS (Rg.atS Rg.at0)))))))))))) rfl (by kernel_rfl) (fun c _ _ h => hP c _ _ _ (by rfl) h) (Or.inl ⟨Ev.wanted rfl, fun w_ => ?_⟩) rfl ?_
  · have h2_ := i2
    unfold execOp
    generalize a11.eval = ev at *
    go_simp
  obtain ⟨a12, qa12⟩ : ∃ z_, z_ = a11.put (some 69) (.int .i64 (q2)) := ⟨_, rfl⟩
  have k12 : Ev.Stay [12, 58, 59, 60, 61, 62, 63, 64, 65, 66, 67, 68, 69, 70, 71, 72, 73, 74, 75, 76, 77, 78, 79] a a12 := by rw [qa12]; exact k11.put (by decide) _
  have e12_0 := Ev.oth qa12 (by decide) e11_0
  have e12_1 := Ev.oth qa12 (by decide) e11_1
  have e12_2 := Ev.oth qa12 (by decide) e11_2
  have e12_3 := Ev.oth qa12 (by decide) e11_3
  have e12_61 := Ev.oth qa12 (by decide) e11_61
  have e12_67 := Ev.oth qa12 (by decide) e11_67
  have e12_68 := Ev.oth qa12 (by decide) e11_68
  have e12_69 := Ev.sam qa12 (by rw [k11.1, hsz]; decide)
  rw [← qa12]
  clear qa12 e11_0 e11_1 e11_2 e11_3 e11_61 e11_67 e11_68
  clear e12_67
  clear e12_68
  refine pure_ (i := 12) (N := some 70) (v := .pointer (some ⟨b, 0, none⟩)) #[true, true, true, true, true, true, true, true, true, true, true, true, true, false, false, false, false, false, false, false, false, false, false] (Rg.of hops (Rg.atS (Rg.atS (Rg.atS (Rg.atS (Rg.atS (Rg.atS (Rg.atS (Rg.atS (Rg.atS (Rg.atS (Rg.atS (Rg.atS Rg.at0))))))))))))) rfl (by kernel_rfl) (fun c _ _ h => hP c _ _ _ (by rfl) h) (Or.inl ⟨Ev.wanted rfl, fun w_ => ?_⟩) rfl ?_
  · unfold execOp
    generalize a12.eval = ev at *
    go_simp
  obtain ⟨a13, qa13⟩ : ∃ z_, z_ = a12.put (some 70) (.pointer (some ⟨b, 0, none⟩)) := ⟨_, rfl⟩
  have k13 : Ev.Stay [12, 58, 59, 60, 61, 62, 63, 64, 65, 66, 67, 68, 69, 70, 71, 72, 73, 74, 75, 76, 77, 78, 79] a a13 := by rw [qa13]; exact k12.put (by decide) _
  have e13_0 := Ev.oth qa13 (by decide) e12_0
  have e13_1 := Ev.oth qa13 (by decide) e12_1
  have e13_2 := Ev.oth qa13 (by decide) e12_2
  have e13_3 := Ev.oth qa13 (by decide) e12_3
  have e13_61 := Ev.oth qa13 (by decide) e12_61
  have e13_69 := Ev.oth qa13 (by decide) e12_69
  have e13_70 := Ev.sam qa13 (by rw [k12.1, hsz]; decide)
  rw [← qa13]
  clear qa13 e12_0 e12_1 e12_2 e12_3 e12_61 e12_69
  refine pure_ (i := 13) (N := some 71) (v := .pointer (some ⟨b, 0, none⟩)) #[true, true, true, true, true, true, true, true, true, true, true, true, true, true, false, false, false, false, false, false, false, false, false] (Rg.of hops (Rg.atS (Rg.atS (Rg.atS (Rg.atS (Rg.atS (Rg.atS (Rg.atS (Rg.atS (Rg.atS (Rg.atS (Rg.atS (Rg.atS (Rg.atS Rg.at0)))))))))))))) rfl (by kernel_rfl) (fun c _ _ h => hP c _ _ _ (by rfl) h) (Or.inl ⟨Ev.wanted rfl, fun w_ => ?_⟩) rfl ?_
  · unfold execOp
    generalize a13.eval = ev at *
    go_simp
  obtain ⟨a14, qa14⟩ : ∃ z_, z_ = a13.put (some 71) (.pointer (some ⟨b, 0, none⟩)) := ⟨_, rfl⟩
  have k14 : Ev.Stay [12, 58, 59, 60, 61, 62, 63, 64, 65, 66, 67, 68, 69, 70, 71, 72, 73, 74, 75, 76, 77, 78, 79] a a14 := by rw [qa14]; exact k13.put (by decide) _
  have e14_0 := Ev.oth qa14 (by decide) e13_0
  have e14_1 := Ev.oth qa14 (by decide) e13_1
  have e14_2 := Ev.oth qa14 (by decide) e13_2
  have e14_3 := Ev.oth qa14 (by decide) e13_3
  have e14_61 := Ev.oth qa14 (by decide) e13_61
  have e14_69 := Ev.oth qa14 (by decide) e13_69
  have e14_70 := Ev.oth qa14 (by decide) e13_70
  have e14_71 := Ev.sam qa14 (by rw [k13.1, hsz]; decide)
  rw [← qa14]
  clear qa14 e13_0 e13_1 e13_2 e13_3 e13_61 e13_69 e13_70
  clear e14_70
  refine pure_ (i := 14) (N := some 72) (v := .pointer (some ⟨b, 0, none⟩)) #[true, true, true, true, true, true, true, true, true, true, true, true, true, true, true, false, false, false, false, false, false, false, false] (Rg.of hops (Rg.atS (Rg.atS (Rg.atS (Rg.atS (Rg.atS (Rg.atS (Rg.atS (Rg.atS (Rg.atS (Rg.atS (Rg.atS (Rg.atS (Rg.atS (Rg.atS Rg.at0))))))))))))))) rfl (by kernel_rfl) (fun c _ _ h => hP c _ _ _ (by rfl) h) (Or.inl ⟨Ev.wanted rfl, fun w_ => ?_⟩) rfl ?_
  · unfold execOp
    generalize a14.eval = ev at *
    go_simp
  obtain ⟨a15, qa15⟩ : ∃ z_, z_ = a14.put (some 72) (.pointer (some ⟨b, 0, none⟩)) := ⟨_, rfl⟩
  have k15 : Ev.Stay [12, 58, 59, 60, 61, 62, 63, 64, 65, 66, 67, 68, 69, 70, 71, 72, 73, 74, 75, 76, 77, 78, 79] a a15 := by rw [qa15]; exact k14.put (by decide) _
  have e15_0 := Ev.oth qa15 (by decide) e14_0
  have e15_1 := Ev.oth qa15 (by decide) e14_1
  have e15_2 := Ev.oth qa15 (by decide) e14_2
  have e15_3 := Ev.oth qa15 (by decide) e14_3
  have e15_61 := Ev.oth qa15 (by decide) e14_61
  have e15_69 := Ev.oth qa15 (by decide) e14_69
  have e15_71 := Ev.oth qa15 (by decide) e14_71
  have e15_72 := Ev.sam qa15 (by rw [k14.1, hsz]; decide)
  rw [← qa15]
  clear qa15 e14_0 e14_1 e14_2 e14_3 e14_61 e14_69 e14_71
  clear e15_71
  refine take_ (i := 15) (N := some 73) (v := .int .i64 (t : Int)) #[true, true, true, true, true, true, true, true, true, true, true, true, true, true, true, true, false, false, false, false, false, false, false] (Rg.of hops (Rg.atS (Rg.atS (Rg.atS (Rg.atS (Rg.atS (Rg.atS (Rg.atS (Rg.atS (Rg.atS (Rg.atS (Rg.atS (Rg.atS (Rg.atS (Rg.atS (Rg.atS Rg.at0)))))))))))))))) rfl (by kernel_rfl) (fun c _ _ h => hP c _ _ _ (by rfl) h) (Ev.loadW (Ev.wanted rfl) rfl e15_72 (fun w hw => Ev.load3 (blk_t hw.1))) hHeld rfl ?_
  obtain ⟨a16, qa16⟩ : ∃ z_, z_ = a15.put (some 73) (.int .i64 (t : Int)) := ⟨_, rfl⟩
  have k16 : Ev.Stay [12, 58, 59, 60, 61, 62, 63, 64, 65, 66, 67, 68, 69, 70, 71, 72, 73, 74, 75, 76, 77, 78, 79] a a16 := by rw [qa16]; exact k15.put (by decide) _
  have e16_0 := Ev.oth qa16 (by decide) e15_0
  have e16_1 := Ev.oth qa16 (by decide) e15_1
  have e16_2 := Ev.oth qa16 (by decide) e15_2
  have e16_3 := Ev.oth qa16 (by decide) e15_3
  have e16_61 := Ev.oth qa16 (by decide) e15_61
  have e16_69 := Ev.oth qa16 (by decide) e15_69
  have e16_72 := Ev.oth qa16 (by decide) e15_72
  have e16_73 := Ev.sam qa16 (by rw [k15.1, hsz]; decide)
  rw [← qa16]
  clear qa16 e15_0 e15_1 e15_2 e15_3 e15_61 e15_69 e15_72
  clear e16_72
  refine pure_ (i := 16) (N := some 74) (v := .int .i64 (q3)) #[true, true, true, true, true, true, true, true, true, true, true, true, true, true, true, true, true, false, false, false, false, false, false] (Rg.of hops (Rg.atS (Rg.atS (Rg.atS (Rg.atS (Rg.atS (Rg.atS (Rg.atS (Rg.atS (Rg.atS (Rg.atS (Rg.atS (Rg.atS (Rg.atS (Rg.atS (Rg.atS (Rg.atS Rg.at0))))))))))))))))) rfl (by kernel_rfl) (fun c _ _ h => hP c _ _ _ (by rfl) h) (Or.inl ⟨Ev.wanted rfl, fun w_ => ?_⟩) rfl ?_
  · have l0_ : (0 : Int) ≤ (t : Int) := by omega
    have mn_ : min t 64 = t := by omega
    have h3_ := i3
    unfold execOp
    generalize a16.eval = ev at *
    go_simp
  obtain ⟨a17, qa17⟩ : ∃ z_, z_ = a16.put (some 74) (.int .i64 (q3)) := ⟨_, rfl⟩
  have k17 : Ev.Stay [12, 58, 59, 60, 61, 62, 63, 64, 65, 66, 67, 68, 69, 70, 71, 72, 73, 74, 75, 76, 77, 78, 79] a a17 := by rw [qa17]; exact k16.put (by decide) _
  have e17_0 := Ev.oth qa17 (by decide) e16_0
  have e17_1 := Ev.oth qa17 (by decide) e16_1
  have e17_2 := Ev.oth qa17 (by decide) e16_2
  have e17_3 := Ev.oth qa17 (by decide) e16_3
  have e17_61 := Ev.oth qa17 (by decide) e16_61
  have e17_69 := Ev.oth qa17 (by decide) e16_69
  have e17_73 := Ev.oth qa17 (by decide) e16_73
  have e17_74 := Ev.sam qa17 (by rw [k16.1, hsz]; decide)
  rw [← qa17]
  clear qa17 e16_0 e16_1 e16_2 e16_3 e16_61 e16_69 e16_73
  clear e17_69
  clear e17_73
  refine pure_ (i := 17) (N := some 75) (v := .int .i64 (l)) #[true, true, true, true, true, true, true, true, true, true, true, true, true, true, true, true, true, true, false, false, false, false, false] (Rg.of hops (Rg.atS (Rg.atS (Rg.atS (Rg.atS (Rg.atS (Rg.atS (Rg.atS (Rg.atS (Rg.atS (Rg.atS (Rg.atS (Rg.atS (Rg.atS (Rg.atS (Rg.atS (Rg.atS (Rg.atS Rg.at0)))))))))))))))))) rfl (by kernel_rfl) (fun c _ _ h => hP c _ _ _ (by rfl) h) (Or.inl ⟨Ev.wanted rfl, fun w_ => ?_⟩) rfl ?_
  · unfold execOp
    generalize a17.eval = ev at *
    go_simp
  obtain ⟨a18, qa18⟩ : ∃ z_, z_ = a17.put (some 75) (.int .i64 (l)) := ⟨_, rfl⟩
  have k18 : Ev.Stay [12, 58, 59, 60, 61, 62, 63, 64, 65, 66, 67, 68, 69, 70, 71, 72, 73, 74, 75, 76, 77, 78, 79] a a18 := by rw [qa18]; exact k17.put (by decide) _
  have e18_0 := Ev.oth qa18 (by decide) e17_0
  have e18_1 := Ev.oth qa18 (by decide) e17_1
  have e18_2 := Ev.oth qa18 (by decide) e17_2
  have e18_3 := Ev.oth qa18 (by decide) e17_3
  have e18_61 := Ev.oth qa18 (by decide) e17_61
  have e18_74 := Ev.oth qa18 (by decide) e17_74
  have e18_75 := Ev.sam qa18 (by rw [k17.1, hsz]; decide)
  rw [← qa18]
  clear qa18 e17_0 e17_1 e17_2 e17_3 e17_61 e17_74
  refine pure_ (i := 18) (N := some 76) (v := .int .i64 (x : Int)) #[true, true, true, true, true, true, true, true, true, true, true, true, true, true, true, true, true, true, true, false, false, false, false] (Rg.of hops (Rg.atS (Rg.atS (Rg.atS (Rg.atS (Rg.atS (Rg.atS (Rg.atS (Rg.atS (Rg.atS (Rg.atS (Rg.atS (Rg.atS (Rg.atS (Rg.atS (Rg.atS (Rg.atS (Rg.atS (Rg.atS Rg.at0))))))))))))))))))) rfl (by kernel_rfl) (fun c _ _ h => hP c _ _ _ (by rfl) h) (Or.inl ⟨Ev.wanted rfl, fun w_ => ?_⟩) rfl ?_
  · have h4_ := i4
    unfold execOp
    generalize a18.eval = ev at *
    go_simp
  obtain ⟨a19, qa19⟩ : ∃ z_, z_ = a18.put (some 76) (.int .i64 (x : Int)) := ⟨_, rfl⟩
  have k19 : Ev.Stay [12, 58, 59, 60, 61, 62, 63, 64, 65, 66, 67, 68, 69, 70, 71, 72, 73, 74, 75, 76, 77, 78, 79] a a19 := by rw [qa19]; exact k18.put (by decide) _
  have e19_0 := Ev.oth qa19 (by decide) e18_0
  have e19_1 := Ev.oth qa19 (by decide) e18_1
  have e19_2 := Ev.oth qa19 (by decide) e18_2
  have e19_3 := Ev.oth qa19 (by decide) e18_3
  have e19_61 := Ev.oth qa19 (by decide) e18_61
  have e19_74 := Ev.oth qa19 (by decide) e18_74
  have e19_75 := Ev.oth qa19 (by decide) e18_75
  have e19_76 := Ev.sam qa19 (by rw [k18.1, hsz]; decide)
  rw [← qa19]
  clear qa19 e18_0 e18_1 e18_2 e18_3 e18_61 e18_74 e18_75
  clear e19_74
  clear e19_75
  refine pure_ (i := 19) (N := some 77) (v := .pointer (some ⟨g, x, none⟩)) #[true, true, true, true, true, true, true, true, true, true, true, true, true, true, true, true, true, true, true, true, false, false, false] (Rg.of hops (Rg.atS (Rg.atS (Rg.atS (Rg.atS (Rg.atS (Rg.atS (Rg.atS (Rg.atS (Rg.atS (Rg.atS (Rg.atS (Rg.atS (Rg.atS (Rg.atS (Rg.atS (Rg.atS (Rg.atS (Rg.atS (Rg.atS Rg.at0)))))))))))))))))))) rfl (by kernel_rfl) (fun c _ _ h => hP c _ _ _ (by rfl) h) (Or.inl ⟨Ev.wanted rfl, fun w_ => ?_⟩) rfl ?_
  · have lk_ := hx
    have lk0_ : (0 : Int) ≤ (x : Int) := by omega
    unfold execOp
    generalize a19.eval = ev at *
    go_simp
  obtain ⟨a20, qa20⟩ : ∃ z_, z_ = a19.put (some 77) (.pointer (some ⟨g, x, none⟩)) := ⟨_, rfl⟩
  have k20 : Ev.Stay [12, 58, 59, 60, 61, 62, 63, 64, 65, 66, 67, 68, 69, 70, 71, 72, 73, 74, 75, 76, 77, 78, 79] a a20 := by rw [qa20]; exact k19.put (by decide) _
  have e20_0 := Ev.oth qa20 (by decide) e19_0
  have e20_1 := Ev.oth qa20 (by decide) e19_1
  have e20_2 := Ev.oth qa20 (by decide) e19_2
  have e20_3 := Ev.oth qa20 (by decide) e19_3
  have e20_61 := Ev.oth qa20 (by decide) e19_61
  have e20_76 := Ev.oth qa20 (by decide) e19_76
  have e20_77 := Ev.sam qa20 (by rw [k19.1, hsz]; decide)
  rw [← qa20]
  clear qa20 e19_0 e19_1 e19_2 e19_3 e19_61 e19_76
  clear e20_61
  clear e20_76
  refine take_ (i := 20) (N := some 78) (v := .int .u8 (y)) #[true, true, true, true, true, true, true, true, true, true, true, true, true, true, true, true, true, true, true, true, true, false, false] (Rg.of hops (Rg.atS (Rg.atS (Rg.atS (Rg.atS (Rg.atS (Rg.atS (Rg.atS (Rg.atS (Rg.atS (Rg.atS (Rg.atS (Rg.atS (Rg.atS (Rg.atS (Rg.atS (Rg.atS (Rg.atS (Rg.atS (Rg.atS (Rg.atS Rg.at0))))))))))))))))))))) rfl (by kernel_rfl) (fun c _ _ h => hP c _ _ _ (by rfl) h) (Ev.loadW (Ev.wanted rfl) rfl e20_77 (fun w hw => Ev.load5 hw.2)) hHeld rfl ?_
  obtain ⟨a21, qa21⟩ : ∃ z_, z_ = a20.put (some 78) (.int .u8 (y)) := ⟨_, rfl⟩
  have k21 : Ev.Stay [12, 58, 59, 60, 61, 62, 63, 64, 65, 66, 67, 68, 69, 70, 71, 72, 73, 74, 75, 76, 77, 78, 79] a a21 := by rw [qa21]; exact k20.put (by decide) _
  have e21_0 := Ev.oth qa21 (by decide) e20_0
  have e21_1 := Ev.oth qa21 (by decide) e20_1
  have e21_2 := Ev.oth qa21 (by decide) e20_2
  have e21_3 := Ev.oth qa21 (by decide) e20_3
  have e21_77 := Ev.oth qa21 (by decide) e20_77
  have e21_78 := Ev.sam qa21 (by rw [k20.1, hsz]; decide)
  rw [← qa21]
  clear qa21 e20_0 e20_1 e20_2 e20_3 e20_77
  clear e21_77
  refine pure_ (i := 21) (N := some 79) (v := .int .i64 (y)) #[true, true, true, true, true, true, true, true, true, true, true, true, true, true, true, true, true, true, true, true, true, true, false] (Rg.of hops (Rg.atS (Rg.atS (Rg.atS (Rg.atS (Rg.atS (Rg.atS (Rg.atS (Rg.atS (Rg.atS (Rg.atS (Rg.atS (Rg.atS (Rg.atS (Rg.atS (Rg.atS (Rg.atS (Rg.atS (Rg.atS (Rg.atS (Rg.atS (Rg.atS Rg.at0)))))))))))))))))))))) rfl (by kernel_rfl) (fun c _ _ h => hP c _ _ _ (by rfl) h) (Or.inl ⟨Ev.wanted rfl, fun w_ => ?_⟩) rfl ?_
  · have hy_ := hy
    unfold execOp
    generalize a21.eval = ev at *
    go_simp
  obtain ⟨a22, qa22⟩ : ∃ z_, z_ = a21.put (some 79) (.int .i64 (y)) := ⟨_, rfl⟩
  have k22 : Ev.Stay [12, 58, 59, 60, 61, 62, 63, 64, 65, 66, 67, 68, 69, 70, 71, 72, 73, 74, 75, 76, 77, 78, 79] a a22 := by rw [qa22]; exact k21.put (by decide) _
  have e22_0 := Ev.oth qa22 (by decide) e21_0
  have e22_1 := Ev.oth qa22 (by decide) e21_1
  have e22_2 := Ev.oth qa22 (by decide) e21_2
  have e22_3 := Ev.oth qa22 (by decide) e21_3
  have e22_78 := Ev.oth qa22 (by decide) e21_78
  have e22_79 := Ev.sam qa22 (by rw [k21.1, hsz]; decide)
  rw [← qa22]
  clear qa22 e21_0 e21_1 e21_2 e21_3 e21_78
  clear e22_78
  refine pure_ (i := 22) (N := some 12) (v := .int .i64 (y)) #[true, true, true, true, true, true, true, true, true, true, true, true, true, true, true, true, true, true, true, true, true, true, true] (Rg.of hops (Rg.atS (Rg.atS (Rg.atS (Rg.atS (Rg.atS (Rg.atS (Rg.atS (Rg.atS (Rg.atS (Rg.atS (Rg.atS (Rg.atS (Rg.atS (Rg.atS (Rg.atS (Rg.atS (Rg.atS (Rg.atS (Rg.atS (Rg.atS (Rg.atS (Rg.atS Rg.at0))))))))))))))))))))))) rfl (by kernel_rfl) (fun c _ _ h => hP c _ _ _ (by rfl) h) (Or.inl ⟨Ev.wanted rfl, fun w_ => ?_⟩) rfl ?_
  · unfold execOp
    generalize a22.eval = ev at *
    go_simp
  obtain ⟨a23, qa23⟩ : ∃ z_, z_ = a22.put (some 12) (.int .i64 (y)) := ⟨_, rfl⟩
  have k23 : Ev.Stay [12, 58, 59, 60, 61, 62, 63, 64, 65, 66, 67, 68, 69, 70, 71, 72, 73, 74, 75, 76, 77, 78, 79] a a23 := by rw [qa23]; exact k22.put (by decide) _
  have e23_0 := Ev.oth qa23 (by decide) e22_0
  have e23_1 := Ev.oth qa23 (by decide) e22_1
  have e23_2 := Ev.oth qa23 (by decide) e22_2
  have e23_3 := Ev.oth qa23 (by decide) e22_3
  have e23_79 := Ev.oth qa23 (by decide) e22_79
  have e23_12 := Ev.sam qa23 (by rw [k22.1, hsz]; decide)
  rw [← qa23]
  clear qa23 e22_0 e22_1 e22_2 e22_3 e22_79
  refine done_ (by kernel_rfl) ?_
  exact hQ _ k23 e23_12
set_option maxHeartbeats 2000000 in
theorem Rg.k6 {id : Nat} {Q : Exit → Act → World → Prop} {a : Act} {W : World} {b t : Nat} {d s y o r : Int} {all : Value}
    (hsz : a.tmps.size = 90) (hP : ∀ c a a' w, a'.defers = a.defers → Q (.panic c) a w → Q (.panic c) a' w)  (h0 : a.eval (.tmp 0) = .pointer (some ⟨b, 0, none⟩)) (h11 : a.eval (.tmp 11) = .int .i64 ((2 ^ t : Nat) : Int)) (h12 : a.eval (.tmp 12) = .int .i64 (y)) (ht : 1 ≤ t ∧ t ≤ 3) (hb : W.drew.heap[b]? = some (.cells (blk t d s all) 65 (0, 0))) (ho : bits .and .i64 y (((2 ^ t : Nat) : Int) - 1) = o) (ho2 : bits .and .i64 y (2 ^ t - 1) = o) (hr : y / 2 ^ t = r)
    (hQ : ∀ a', Ev.Stay [8, 9, 10, 80, 81, 82, 83, 84, 85, 86, 87, 88, 89] a a' → a'.eval (.tmp 8) = .int .i64 o → a'.eval (.tmp 9) = .int .i64 r → a'.eval (.tmp 10) = .int .i64 0 → Q .normal a' W.drew) : (Code.region id (Rg.ops 23 6) true).wp Try.prog Q a W := by
  have hops : Rg.ops 23 6 = List.toArray [_, _, _, _, _, _, _, _, _, _, _, _, _] := rfl
  refine start_ (S := fun w_ => w_.heap[b]? = some (.cells (blk t d s all) 65 (0, 0))) (ds := []) #[false, false, false, false, false, false, false, false, false, false, false, false, false] (by kernel_rfl) (n := 13) rfl rfl ?S0 (fun hHeld => ?_)
  case S0 => exact hb
  have k0 : Ev.Stay [8, 9, 10, 80, 81, 82, 83, 84, 85, 86, 87, 88, 89] a a := Ev.Stay.refl [8, 9, 10, 80, 81, 82, 83, 84, 85, 86, 87, 88, 89] a
  refine pure_ (i := 0) (N := some 80) (v := .int .i64 (y)) #[true, false, false, false, false, false, false, false, false, false, false, false, false] (Rg.of hops Rg.at0) rfl (by kernel_rfl) (fun c _ _ h => hP c _ _ _ (by rfl) h) (Or.inl ⟨Ev.wanted rfl, fun w_ => ?_⟩) rfl ?_
  · unfold execOp
    generalize a.eval = ev at *
    go_simp
  obtain ⟨a1, qa1⟩ : ∃ z_, z_ = a.put (some 80) (.int .i64 (y)) := ⟨_, rfl⟩
  have k1 : Ev.Stay [8, 9, 10, 80, 81, 82, 83, 84, 85, 86, 87, 88, 89] a a1 := by rw [qa1]; exact k0.put (by decide) _
  have e1_0 := Ev.oth qa1 (by decide) h0
  have e1_11 := Ev.oth qa1 (by decide) h11
  have e1_12 := Ev.oth qa1 (by decide) h12
  have e1_80 := Ev.sam qa1 (by rw [k0.1, hsz]; decide)
  rw [← qa1]
  clear qa1 
  refine pure_ (i := 1) (N := some 81) (v := .int .i64 ((2 ^ t : Nat) : Int)) #[true, true, false, false, false, false, false, false, false, false, false, false, false] (Rg.of hops (Rg.atS Rg.at0)) rfl (by kernel_rfl) (fun c _ _ h => hP c _ _ _ (by rfl) h) (Or.inl ⟨Ev.wanted rfl, fun w_ => ?_⟩) rfl ?_
  · unfold execOp
    generalize a1.eval = ev at *
    go_simp
  obtain ⟨a2, qa2⟩ : ∃ z_, z_ = a1.put (some 81) (.int .i64 ((2 ^ t : Nat) : Int)) := ⟨_, rfl⟩
  have k2 : Ev.Stay [8, 9, 10, 80, 81, 82, 83, 84, 85, 86, 87, 88, 89] a a2 := by rw [qa2]; exact k1.put (by decide) _
  have e2_0 := Ev.oth qa2 (by decide) e1_0
  have e2_11 := Ev.oth qa2 (by decide) e1_11
  have e2_12 := Ev.oth qa2 (by decide) e1_12
  have e2_80 := Ev.oth qa2 (by decide) e1_80
  have e2_81 := Ev.sam qa2 (by rw [k1.1, hsz]; decide)
  rw [← qa2]
  clear qa2 e1_0 e1_11 e1_12 e1_80
  refine pure_ (i := 2) (N := some 82) (v := .int .i64 ((2 ^ t : Nat) - 1 : Int)) #[true, true, true, false, false, false, false, false, false, false, false, false, false] (Rg.of hops (Rg.atS (Rg.atS Rg.at0))) rfl (by kernel_rfl) (fun c _ _ h => hP c _ _ _ (by rfl) h) (Or.inl ⟨Ev.wanted rfl, fun w_ => ?_⟩) rfl ?_
  · have ec0 : a2.eval (.const (.int .i64 (1))) = .int .i64 (1) := rfl
    have hm1_ := pow_m1 ht
    unfold execOp
    generalize a2.eval = ev at *
    (go_simp; try (first | exact hm1_ | exact pow_m2 ht))
  obtain ⟨a3, qa3⟩ : ∃ z_, z_ = a2.put (some 82) (.int .i64 ((2 ^ t : Nat) - 1 : Int)) := ⟨_, rfl⟩
  have k3 : Ev.Stay [8, 9, 10, 80, 81, 82, 83, 84, 85, 86, 87, 88, 89] a a3 := by rw [qa3]; exact k2.put (by decide) _
  have e3_0 := Ev.oth qa3 (by decide) e2_0
  have e3_11 := Ev.oth qa3 (by decide) e2_11
  have e3_12 := Ev.oth qa3 (by decide) e2_12
  have e3_80 := Ev.oth qa3 (by decide) e2_80
  have e3_81 := Ev.oth qa3 (by decide) e2_81
  have e3_82 := Ev.sam qa3 (by rw [k2.1, hsz]; decide)
  rw [← qa3]
  clear qa3 e2_0 e2_11 e2_12 e2_80 e2_81
  clear e3_81
  refine pure_ (i := 3) (N := some 83) (v := .int .i64 (o)) #[true, true, true, true, false, false, false, false, false, false, false, false, false] (Rg.of hops (Rg.atS (Rg.atS (Rg.atS Rg.at0)))) rfl (by kernel_rfl) (fun c _ _ h => hP c _ _ _ (by rfl) h) (Or.inl ⟨Ev.wanted rfl, fun w_ => ?_⟩) rfl ?_
  · have ho_ := ho
    have ho2_ := ho2
    unfold execOp
    generalize a3.eval = ev at *
    (go_simp; try (first | exact ho_ | exact ho2_))
  obtain ⟨a4, qa4⟩ : ∃ z_, z_ = a3.put (some 83) (.int .i64 (o)) := ⟨_, rfl⟩
  have k4 : Ev.Stay [8, 9, 10, 80, 81, 82, 83, 84, 85, 86, 87, 88, 89] a a4 := by rw [qa4]; exact k3.put (by decide) _
  have e4_0 := Ev.oth qa4 (by decide) e3_0
  have e4_11 := Ev.oth qa4 (by decide) e3_11
  have e4_12 := Ev.oth qa4 (by decide) e3_12
  have e4_80 := Ev.oth qa4 (by decide) e3_80
  have e4_82 := Ev.oth qa4 (by decide) e3_82
  have e4_83 := Ev.sam qa4 (by rw [k3.1, hsz]; decide)
  rw [← qa4]
  clear qa4 e3_0 e3_11 e3_12 e3_80 e3_82
  clear e4_80
  clear e4_82
  refine pure_ (i := 4) (N := some 84) (v := .int .i64 (y)) #[true, true, true, true, true, false, false, false, false, false, false, false, false] (Rg.of hops (Rg.atS (Rg.atS (Rg.atS (Rg.atS Rg.at0))))) rfl (by kernel_rfl) (fun c _ _ h => hP c _ _ _ (by rfl) h) (Or.inl ⟨Ev.wanted rfl, fun w_ => ?_⟩) rfl ?_
  · unfold execOp
    generalize a4.eval = ev at *
    go_simp
  obtain ⟨a5, qa5⟩ : ∃ z_, z_ = a4.put (some 84) (.int .i64 (y)) := ⟨_, rfl⟩
  have k5 : Ev.Stay [8, 9, 10, 80, 81, 82, 83, 84, 85, 86, 87, 88, 89] a a5 := by rw [qa5]; exact k4.put (by decide) _
  have e5_0 := Ev.oth qa5 (by decide) e4_0
  have e5_11 := Ev.oth qa5 (by decide) e4_11
  have e5_12 := Ev.oth qa5 (by decide) e4_12
  have e5_83 := Ev.oth qa5 (by decide) e4_83
  have e5_84 := Ev.sam qa5 (by rw [k4.1, hsz]; decide)
  rw [← qa5]
  clear qa5 e4_0 e4_11 e4_12 e4_83
  refine pure_ (i := 5) (N := some 85) (v := .pointer (some ⟨b, 0, none⟩)) #[true, true, true, true, true, true, false, false, false, false, false, false, false] (Rg.of hops (Rg.atS (Rg.atS (Rg.atS (Rg.atS (Rg.atS Rg.at0)))))) rfl (by kernel_rfl) (fun c _ _ h => hP c _ _ _ (by rfl) h) (Or.inl ⟨Ev.wanted rfl, fun w_ => ?_⟩) rfl ?_
  · unfold execOp
    generalize a5.eval = ev at *
    go_simp
  obtain ⟨a6, qa6⟩ : ∃ z_, z_ = a5.put (some 85) (.pointer (some ⟨b, 0, none⟩)) := ⟨_, rfl⟩
  have k6 : Ev.Stay [8, 9, 10, 80, 81, 82, 83, 84, 85, 86, 87, 88, 89] a a6 := by rw [qa6]; exact k5.put (by decide) _
  have e6_0 := Ev.oth qa6 (by decide) e5_0
  have e6_11 := Ev.oth qa6 (by decide) e5_11
  have e6_12 := Ev.oth qa6 (by decide) e5_12
  have e6_83 := Ev.oth qa6 (by decide) e5_83
  have e6_84 := Ev.oth qa6 (by decide) e5_84
  have e6_85 := Ev.sam qa6 (by rw [k5.1, hsz]; decide)
  rw [← qa6]
  clear qa6 e5_0 e5_11 e5_12 e5_83 e5_84
  refine pure_ (i := 6) (N := some 86) (v := .pointer (some ⟨b, 0, none⟩)) #[true, true, true, true, true, true, true, false, false, false, false, false, false] (Rg.of hops (Rg.atS (Rg.atS (Rg.atS (Rg.atS (Rg.atS (Rg.atS Rg.at0))))))) rfl (by kernel_rfl) (fun c _ _ h => hP c _ _ _ (by rfl) h) (Or.inl ⟨Ev.wanted rfl, fun w_ => ?_⟩) rfl ?_
  · unfold execOp
    generalize a6.eval = ev at *
    go_simp
  obtain ⟨a7, qa7⟩ : ∃ z_, z_ = a6.put (some 86) (.pointer (some ⟨b, 0, none⟩)) := ⟨_, rfl⟩
  have k7 : Ev.Stay [8, 9, 10, 80, 81, 82, 83, 84, 85, 86, 87, 88, 89] a a7 := by rw [qa7]; exact k6.put (by decide) _
  have e7_0 := Ev.oth qa7 (by decide) e6_0
  have e7_11 := Ev.oth qa7 (by decide) e6_11
  have e7_12 := Ev.oth qa7 (by decide) e6_12
  have e7_83 := Ev.oth qa7 (by decide) e6_83
  have e7_84 := Ev.oth qa7 (by decide) e6_84
  have e7_85 := Ev.oth qa7 (by decide) e6_85
  have e7_86 := Ev.sam qa7 (by rw [k6.1, hsz]; decide)
  rw [← qa7]
  clear qa7 e6_0 e6_11 e6_12 e6_83 e6_84 e6_85
  clear e7_85
  refine pure_ (i := 7) (N := some 87) (v := .pointer (some ⟨b, 0, none⟩)) #[true, true, true, true, true, true, true, true, false, false, false, false, false] (Rg.of hops (Rg.atS (Rg.atS (Rg.atS (Rg.atS (Rg.atS (Rg.atS (Rg.atS Rg.at0)))))))) rfl (by kernel_rfl) (fun c _ _ h => hP c _ _ _ (by rfl) h) (Or.inl ⟨Ev.wanted rfl, fun w_ => ?_⟩) rfl ?_
  · unfold execOp
    generalize a7.eval = ev at *
    go_simp
  obtain ⟨a8, qa8⟩ : ∃ z_, z_ = a7.put (some 87) (.pointer (some ⟨b, 0, none⟩)) := ⟨_, rfl⟩
  have k8 : Ev.Stay [8, 9, 10, 80, 81, 82, 83, 84, 85, 86, 87, 88, 89] a a8 := by rw [qa8]; exact k7.put (by decide) _
  have e8_0 := Ev.oth qa8 (by decide) e7_0
  have e8_11 := Ev.oth qa8 (by decide) e7_11
  have e8_12 := Ev.oth qa8 (by decide) e7_12
  have e8_83 := Ev.oth qa8 (by decide) e7_83
  have e8_84 := Ev.oth qa8 (by decide) e7_84
  have e8_86 := Ev.oth qa8 (by decide) e7_86
  have e8_87 := Ev.sam qa8 (by rw [k7.1, hsz]; decide)
  rw [← qa8]
  clear qa8 e7_0 e7_11 e7_12 e7_83 e7_84 e7_86
  clear e8_86
  refine take_ (i := 8) (N := some 88) (v := .int .i64 (t : Int)) #[true, true, true, true, true, true, true, true, true, false, false, false, false] (Rg.of hops (Rg.atS (Rg.atS (Rg.atS (Rg.atS (Rg.atS (Rg.atS (Rg.atS (Rg.atS Rg.at0))))))))) rfl (by kernel_rfl) (fun c _ _ h => hP c _ _ _ (by rfl) h) (Ev.loadW (Ev.wanted rfl) rfl e8_87 (fun w hw => Ev.load3 (blk_t hw))) hHeld rfl ?_
  obtain ⟨a9, qa9⟩ : ∃ z_, z_ = a8.put (some 88) (.int .i64 (t : Int)) := ⟨_, rfl⟩
  have k9 : Ev.Stay [8, 9, 10, 80, 81, 82, 83, 84, 85, 86, 87, 88, 89] a a9 := by rw [qa9]; exact k8.put (by decide) _
  have e9_0 := Ev.oth qa9 (by decide) e8_0
  have e9_11 := Ev.oth qa9 (by decide) e8_11
  have e9_12 := Ev.oth qa9 (by decide) e8_12
  have e9_83 := Ev.oth qa9 (by decide) e8_83
  have e9_84 := Ev.oth qa9 (by decide) e8_84
  have e9_87 := Ev.oth qa9 (by decide) e8_87
  have e9_88 := Ev.sam qa9 (by rw [k8.1, hsz]; decide)
  rw [← qa9]
  clear qa9 e8_0 e8_11 e8_12 e8_83 e8_84 e8_87
  clear e9_87
  refine pure_ (i := 9) (N := some 89) (v := .int .i64 (r)) #[true, true, true, true, true, true, true, true, true, true, false, false, false] (Rg.of hops (Rg.atS (Rg.atS (Rg.atS (Rg.atS (Rg.atS (Rg.atS (Rg.atS (Rg.atS (Rg.atS Rg.at0)))))))))) rfl (by kernel_rfl) (fun c _ _ h => hP c _ _ _ (by rfl) h) (Or.inl ⟨Ev.wanted rfl, fun w_ => ?_⟩) rfl ?_
  · have l0_ : (0 : Int) ≤ (t : Int) := by omega
    have mn_ : min t 64 = t := by omega
    have hr_ := hr
    unfold execOp
    generalize a9.eval = ev at *
    go_simp
  obtain ⟨a10, qa10⟩ : ∃ z_, z_ = a9.put (some 89) (.int .i64 (r)) := ⟨_, rfl⟩
  have k10 : Ev.Stay [8, 9, 10, 80, 81, 82, 83, 84, 85, 86, 87, 88, 89] a a10 := by rw [qa10]; exact k9.put (by decide) _
  have e10_0 := Ev.oth qa10 (by decide) e9_0
  have e10_11 := Ev.oth qa10 (by decide) e9_11
  have e10_12 := Ev.oth qa10 (by decide) e9_12
  have e10_83 := Ev.oth qa10 (by decide) e9_83
  have e10_84 := Ev.oth qa10 (by decide) e9_84
  have e10_88 := Ev.oth qa10 (by decide) e9_88
  have e10_89 := Ev.sam qa10 (by rw [k9.1, hsz]; decide)
  rw [← qa10]
  clear qa10 e9_0 e9_11 e9_12 e9_83 e9_84 e9_88
  clear e10_84
  clear e10_88
  refine pure_ (i := 10) (N := some 8) (v := .int .i64 (o)) #[true, true, true, true, true, true, true, true, true, true, true, false, false] (Rg.of hops (Rg.atS (Rg.atS (Rg.atS (Rg.atS (Rg.atS (Rg.atS (Rg.atS (Rg.atS (Rg.atS (Rg.atS Rg.at0))))))))))) rfl (by kernel_rfl) (fun c _ _ h => hP c _ _ _ (by rfl) h) (Or.inl ⟨Ev.wanted rfl, fun w_ => ?_⟩) rfl ?_
  · unfold execOp
    generalize a10.eval = ev at *
    go_simp
  obtain ⟨a11, qa11⟩ : ∃ z_, z_ = a10.put (some 8) (.int .i64 (o)) := ⟨_, rfl⟩
  have k11 : Ev.Stay [8, 9, 10, 80, 81, 82, 83, 84, 85, 86, 87, 88, 89] a a11 := by rw [qa11]; exact k10.put (by decide) _
  have e11_0 := Ev.oth qa11 (by decide) e10_0
  have e11_11 := Ev.oth qa11 (by decide) e10_11
  have e11_12 := Ev.oth qa11 (by decide) e10_12
  have e11_83 := Ev.oth qa11 (by decide) e10_83
  have e11_89 := Ev.oth qa11 (by decide) e10_89
  have e11_8 := Ev.sam qa11 (by rw [k10.1, hsz]; decide)
  rw [← qa11]
  clear qa11 e10_0 e10_11 e10_12 e10_83 e10_89
  refine pure_ (i := 11) (N := some 9) (v := .int .i64 (r)) #[true, true, true, true, true, true, true, true, true, true, true, true, false] (Rg.of hops (Rg.atS (Rg.atS (Rg.atS (Rg.atS (Rg.atS (Rg.atS (Rg.atS (Rg.atS (Rg.atS (Rg.atS (Rg.atS Rg.at0)))))))))))) rfl (by kernel_rfl) (fun c _ _ h => hP c _ _ _ (by rfl) h) (Or.inl ⟨Ev.wanted rfl, fun w_ => ?_⟩) rfl ?_
  · unfold execOp
    generalize a11.eval = ev at *
    go_simp
  obtain ⟨a12, qa12⟩ : ∃ z_, z_ = a11.put (some 9) (.int .i64 (r)) := ⟨_, rfl⟩
  have k12 : Ev.Stay [8, 9, 10, 80, 81, 82, 83, 84, 85, 86, 87, 88, 89] a a12 := by rw [qa12]; exact k11.put (by decide) _
  have e12_0 := Ev.oth qa12 (by decide) e11_0
  have e12_11 := Ev.oth qa12 (by decide) e11_11
  have e12_12 := Ev.oth qa12 (by decide) e11_12
  have e12_83 := Ev.oth qa12 (by decide) e11_83
  have e12_89 := Ev.oth qa12 (by decide) e11_89
  have e12_8 := Ev.oth qa12 (by decide) e11_8
  have e12_9 := Ev.sam qa12 (by rw [k11.1, hsz]; decide)
  rw [← qa12]
  clear qa12 e11_0 e11_11 e11_12 e11_83 e11_89 e11_8
  refine pure_ (i := 12) (N := some 10) (v := .int .i64 (0)) #[true, true, true, true, true, true, true, true, true, true, true, true, true] (Rg.of hops (Rg.atS (Rg.atS (Rg.atS (Rg.atS (Rg.atS (Rg.atS (Rg.atS (Rg.atS (Rg.atS (Rg.atS (Rg.atS (Rg.atS Rg.at0))))))))))))) rfl (by kernel_rfl) (fun c _ _ h => hP c _ _ _ (by rfl) h) (Or.inl ⟨Ev.wanted rfl, fun w_ => ?_⟩) rfl ?_
  · have ec0 : a12.eval (.const (.int .i64 (0))) = .int .i64 (0) := rfl
    unfold execOp
    generalize a12.eval = ev at *
    go_simp
  obtain ⟨a13, qa13⟩ : ∃ z_, z_ = a12.put (some 10) (.int .i64 (0)) := ⟨_, rfl⟩
  have k13 : Ev.Stay [8, 9, 10, 80, 81, 82, 83, 84, 85, 86, 87, 88, 89] a a13 := by rw [qa13]; exact k12.put (by decide) _
  have e13_0 := Ev.oth qa13 (by decide) e12_0
  have e13_11 := Ev.oth qa13 (by decide) e12_11
  have e13_12 := Ev.oth qa13 (by decide) e12_12
  have e13_83 := Ev.oth qa13 (by decide) e12_83
  have e13_89 := Ev.oth qa13 (by decide) e12_89
  have e13_8 := Ev.oth qa13 (by decide) e12_8
  have e13_9 := Ev.oth qa13 (by decide) e12_9
  have e13_10 := Ev.sam qa13 (by rw [k12.1, hsz]; decide)
  rw [← qa13]
  clear qa13 e12_0 e12_11 e12_12 e12_83 e12_89 e12_8 e12_9
  refine done_ (by kernel_rfl) ?_
  exact hQ _ k13 e13_8 e13_9 e13_10
set_option maxHeartbeats 2000000 in
theorem Rg.k4 {id : Nat} {Q : Exit → Act → World → Prop} {a : Act} {W : World} {b : Nat} {RR : World → Prop}
    (hsz : a.tmps.size = 90)  (h0 : a.eval (.tmp 0) = .pointer (some ⟨b, 0, none⟩)) (hc : Calls Try.prog 27 #[.pointer (some ⟨b, 1, none⟩), .func (.func 28) #[.pointer (some ⟨b, 0, none⟩)] #[]] W fun e w' => e = .returned (.tuple #[]) ∧ RR w')
    (hQ : ∀ a' W', Ev.Stay [52, 53, 54, 55, 56, 57] a a' → RR W' → Q .normal a' W') : (Code.region id (Rg.ops 23 4) false).wp Try.prog Q a W := by
  refine wp_region_list ?_
  show wpList _ _ _ (_ :: _ :: _ :: _ :: _ :: _ :: []) _ _
  have k0 : Ev.Stay [52, 53, 54, 55, 56, 57] a a := Ev.Stay.refl [52, 53, 54, 55, 56, 57] a
  refine Ev.pv (N := 52) (v := .pointer (some ⟨b, 0, none⟩)) (W' := W) ?_ rfl rfl ?_
  · unfold execOp
    generalize a.eval = ev at *
    go_simp
  obtain ⟨a1, qa1⟩ : ∃ z_, z_ = a.put (some 52) (.pointer (some ⟨b, 0, none⟩)) := ⟨_, rfl⟩
  have k1 : Ev.Stay [52, 53, 54, 55, 56, 57] a a1 := by rw [qa1]; exact k0.put (by decide) _
  have e1_0 := Ev.oth qa1 (by decide) h0
  have e1_52 := Ev.sam qa1 (by rw [k0.1, hsz]; decide)
  rw [← qa1]
  clear qa1 
  refine Ev.pv (N := 53) (v := .pointer (some ⟨b, 0, none⟩)) (W' := W) ?_ rfl rfl ?_
  · unfold execOp
    generalize a1.eval = ev at *
    go_simp
  obtain ⟨a2, qa2⟩ : ∃ z_, z_ = a1.put (some 53) (.pointer (some ⟨b, 0, none⟩)) := ⟨_, rfl⟩
  have k2 : Ev.Stay [52, 53, 54, 55, 56, 57] a a2 := by rw [qa2]; exact k1.put (by decide) _
  have e2_0 := Ev.oth qa2 (by decide) e1_0
  have e2_52 := Ev.oth qa2 (by decide) e1_52
  have e2_53 := Ev.sam qa2 (by rw [k1.1, hsz]; decide)
  rw [← qa2]
  clear qa2 e1_0 e1_52
  clear e2_52
  refine Ev.pv (N := 54) (v := .pointer (some ⟨b, 1, none⟩)) (W' := W) ?_ rfl rfl ?_
  · unfold execOp
    generalize a2.eval = ev at *
    go_simp
  obtain ⟨a3, qa3⟩ : ∃ z_, z_ = a2.put (some 54) (.pointer (some ⟨b, 1, none⟩)) := ⟨_, rfl⟩
  have k3 : Ev.Stay [52, 53, 54, 55, 56, 57] a a3 := by rw [qa3]; exact k2.put (by decide) _
  have e3_0 := Ev.oth qa3 (by decide) e2_0
  have e3_53 := Ev.oth qa3 (by decide) e2_53
  have e3_54 := Ev.sam qa3 (by rw [k2.1, hsz]; decide)
  rw [← qa3]
  clear qa3 e2_0 e2_53
  clear e3_53
  refine Ev.pv (N := 55) (v := .pointer (some ⟨b, 0, none⟩)) (W' := W) ?_ rfl rfl ?_
  · unfold execOp
    generalize a3.eval = ev at *
    go_simp
  obtain ⟨a4, qa4⟩ : ∃ z_, z_ = a3.put (some 55) (.pointer (some ⟨b, 0, none⟩)) := ⟨_, rfl⟩
  have k4 : Ev.Stay [52, 53, 54, 55, 56, 57] a a4 := by rw [qa4]; exact k3.put (by decide) _
  have e4_0 := Ev.oth qa4 (by decide) e3_0
  have e4_54 := Ev.oth qa4 (by decide) e3_54
  have e4_55 := Ev.sam qa4 (by rw [k3.1, hsz]; decide)
  rw [← qa4]
  clear qa4 e3_0 e3_54
  refine Ev.pv (N := 56) (v := .func (.func 28) #[.pointer (some ⟨b, 0, none⟩)] #[]) (W' := W) ?_ rfl rfl ?_
  · unfold execOp
    generalize a4.eval = ev at *
    go_simp
  obtain ⟨a5, qa5⟩ : ∃ z_, z_ = a4.put (some 56) (.func (.func 28) #[.pointer (some ⟨b, 0, none⟩)] #[]) := ⟨_, rfl⟩
  have k5 : Ev.Stay [52, 53, 54, 55, 56, 57] a a5 := by rw [qa5]; exact k4.put (by decide) _
  have e5_0 := Ev.oth qa5 (by decide) e4_0
  have e5_54 := Ev.oth qa5 (by decide) e4_54
  have e5_55 := Ev.oth qa5 (by decide) e4_55
  have e5_56 := Ev.sam qa5 (by rw [k4.1, hsz]; decide)
  rw [← qa5]
  clear qa5 e4_0 e4_54 e4_55
  clear e5_55
  refine Ev.pc (N := 57) (f := 27) (args := #[.pointer (some ⟨b, 1, none⟩), .func (.func 28) #[.pointer (some ⟨b, 0, none⟩)] #[]]) ?_ rfl rfl (hc.mono ?_)
  · have ef : a5.eval (.func 27) = .func (.func 27) #[] #[] := rfl
    unfold execOp
    generalize a5.eval = ev at *
    go_simp
  rintro e w' ⟨rfl, hR⟩
  refine ⟨_, rfl, ?_⟩
  exact hQ _ _ (k5.put (by decide) _) hR
set_option maxHeartbeats 2000000 in
theorem Rg.k2 {id : Nat} {Q : Exit → Act → World → Prop} {a : Act} {W : World} {b t : Nat} {d s q p l : Int} {all : Value}
    (hsz : a.tmps.size = 90) (hP : ∀ c a a' w, a'.defers = a.defers → Q (.panic c) a w → Q (.panic c) a' w)  (h0 : a.eval (.tmp 0) = .pointer (some ⟨b, 0, none⟩)) (h1 : a.eval (.tmp 1) = .int .i64 (q)) (h2 : a.eval (.tmp 2) = .int .i64 (p)) (h3 : a.eval (.tmp 3) = .int .i64 (l)) (h11 : a.eval (.tmp 11) = .int .i64 ((2 ^ t : Nat) : Int)) (ht : 1 ≤ t ∧ t ≤ 3) (hb : W.drew.heap[b]? = some (.cells (blk t d s all) 65 (0, 0))) (b0 : ¬ q < 0) (b1 : ¬ ((2 ^ (t * t) : Nat) : Int) ≤ q) (b2 : ¬ p < 0) (b3 : ¬ ((2 ^ t : Nat) : Int) ≤ p) (b4 : ¬ l < 0) (b5 : ¬ ((2 ^ t : Nat) : Int) ≤ l)
    (hQ : ∀ a', Ev.Stay [18, 19, 20, 21, 22, 23, 24, 25, 26, 27, 28, 29, 30, 31, 32, 33, 34, 35, 36, 37, 38, 39, 40, 41, 42, 43, 44, 45, 46, 47, 48, 49, 50, 51] a a' → a'.eval (.tmp 51) = .bool false → Q .normal a' W.drew) : (Code.region id (Rg.ops 23 2) true).wp Try.prog Q a W := by
  have hops : Rg.ops 23 2 = List.toArray [_, _, _, _, _, _, _, _, _, _, _, _, _, _, _, _, _, _, _, _, _, _, _, _, _, _, _, _, _, _, _, _, _, _] := rfl
  refine start_ (S := fun w_ => w_.heap[b]? = some (.cells (blk t d s all) 65 (0, 0))) (ds := []) #[false, false, false, false, false, false, false, false, false, false, false, false, false, false, false, false, false, false, false, false, false, false, false, false, false, false, false, false, false, false, false, false, false, false] (by kernel_rfl) (n := 34) rfl rfl ?S0 (fun hHeld => ?_)
  case S0 => exact hb
  have k0 : Ev.Stay [18, 19, 20, 21, 22, 23, 24, 25, 26, 27, 28, 29, 30, 31, 32, 33, 34, 35, 36, 37, 38, 39, 40, 41, 42, 43, 44, 45, 46, 47, 48, 49, 50, 51] a a := Ev.Stay.refl [18, 19, 20, 21, 22, 23, 24, 25, 26, 27, 28, 29, 30, 31, 32, 33, 34, 35, 36, 37, 38, 39, 40, 41, 42, 43, 44, 45, 46, 47, 48, 49, 50, 51] a
  refine pure_ (i := 0) (N := some 18) (v := .int .i64 (q)) #[true, false, false, false, false, false, false, false, false, false, false, false, false, false, false, false, false, false, false, false, false, false, false, false, false, false, false, false, false, false, false, false, false, false] (Rg.of hops Rg.at0) rfl (by kernel_rfl) (fun c _ _ h => hP c _ _ _ (by rfl) h) (Or.inl ⟨Ev.wanted rfl, fun w_ => ?_⟩) rfl ?_
  · unfold execOp
    generalize a.eval = ev at *
    go_simp
  obtain ⟨a1, qa1⟩ : ∃ z_, z_ = a.put (some 18) (.int .i64 (q)) := ⟨_, rfl⟩
  have k1 : Ev.Stay [18, 19, 20, 21, 22, 23, 24, 25, 26, 27, 28, 29, 30, 31, 32, 33, 34, 35, 36, 37, 38, 39, 40, 41, 42, 43, 44, 45, 46, 47, 48, 49, 50, 51] a a1 := by rw [qa1]; exact k0.put (by decide) _
  have e1_0 := Ev.oth qa1 (by decide) h0
  have e1_1 := Ev.oth qa1 (by decide) h1
  have e1_2 := Ev.oth qa1 (by decide) h2
  have e1_3 := Ev.oth qa1 (by decide) h3
  have e1_11 := Ev.oth qa1 (by decide) h11
  have e1_18 := Ev.sam qa1 (by rw [k0.1, hsz]; decide)
  rw [← qa1]
  clear qa1 
  refine pure_ (i := 1) (N := some 19) (v := .bool false) #[true, true, false, false, false, false, false, false, false, false, false, false, false, false, false, false, false, false, false, false, false, false, false, false, false, false, false, false, false, false, false, false, false, false] (Rg.of hops (Rg.atS Rg.at0)) rfl (by kernel_rfl) (fun c _ _ h => hP c _ _ _ (by rfl) h) (Or.inl ⟨Ev.wanted rfl, fun w_ => ?_⟩) rfl ?_
  · have ec0 : a1.eval (.const (.int .i64 (0))) = .int .i64 (0) := rfl
    have f_ : decide (q < 0) = false := by simpa using b0
    have f2_ := b0
    unfold execOp
    generalize a1.eval = ev at *
    go_simp
  obtain ⟨a2, qa2⟩ : ∃ z_, z_ = a1.put (some 19) (.bool false) := ⟨_, rfl⟩
  have k2 : Ev.Stay [18, 19, 20, 21, 22, 23, 24, 25, 26, 27, 28, 29, 30, 31, 32, 33, 34, 35, 36, 37, 38, 39, 40, 41, 42, 43, 44, 45, 46, 47, 48, 49, 50, 51] a a2 := by rw [qa2]; exact k1.put (by decide) _
  have e2_0 := Ev.oth qa2 (by decide) e1_0
  have e2_1 := Ev.oth qa2 (by decide) e1_1
  have e2_2 := Ev.oth qa2 (by decide) e1_2
  have e2_3 := Ev.oth qa2 (by decide) e1_3
  have e2_11 := Ev.oth qa2 (by decide) e1_11
  have e2_18 := Ev.oth qa2 (by decide) e1_18
  have e2_19 := Ev.sam qa2 (by rw [k1.1, hsz]; decide)
  rw [← qa2]
  clear qa2 e1_0 e1_1 e1_2 e1_3 e1_11 e1_18
  clear e2_18
  refine pure_ (i := 2) (N := some 20) (v := .bool false) #[true, true, true, false, false, false, false, false, false, false, false, false, false, false, false, false, false, false, false, false, false, false, false, false, false, false, false, false, false, false, false, false, false, false] (Rg.of hops (Rg.atS (Rg.atS Rg.at0))) rfl (by kernel_rfl) (fun c _ _ h => hP c _ _ _ (by rfl) h) (Or.inl ⟨Ev.wanted rfl, fun w_ => ?_⟩) rfl ?_
  · unfold execOp
    generalize a2.eval = ev at *
    go_simp
  obtain ⟨a3, qa3⟩ : ∃ z_, z_ = a2.put (some 20) (.bool false) := ⟨_, rfl⟩
  have k3 : Ev.Stay [18, 19, 20, 21, 22, 23, 24, 25, 26, 27, 28, 29, 30, 31, 32, 33, 34, 35, 36, 37, 38, 39, 40, 41, 42, 43, 44, 45, 46, 47, 48, 49, 50, 51] a a3 := by rw [qa3]; exact k2.put (by decide) _
  have e3_0 := Ev.oth qa3 (by decide) e2_0
  have e3_1 := Ev.oth qa3 (by decide) e2_1
  have e3_2 := Ev.oth qa3 (by decide) e2_2
  have e3_3 := Ev.oth qa3 (by decide) e2_3
  have e3_11 := Ev.oth qa3 (by decide) e2_11
  have e3_19 := Ev.oth qa3 (by decide) e2_19
  have e3_20 := Ev.sam qa3 (by rw [k2.1, hsz]; decide)
  rw [← qa3]
  clear qa3 e2_0 e2_1 e2_2 e2_3 e2_11 e2_19
  clear e3_19
  refine pure_ (i := 3) (N := some 21) (v := .int .i64 (q)) #[true, true, true, true, false, false, false, false, false, false, false, false, false, false, false, false, false, false, false, false, false, false, false, false, false, false, false, false, false, false, false, false, false, false] (Rg.of hops (Rg.atS (Rg.atS (Rg.atS Rg.at0)))) rfl (by kernel_rfl) (fun c _ _ h => hP c _ _ _ (by rfl) h) (Or.inl ⟨Ev.wantedG rfl (Rg.of hops (Rg.atS (Rg.atS Rg.at0))) rfl e3_20, fun w_ => ?_⟩) rfl ?_
  · unfold execOp
    generalize a3.eval = ev at *
    go_simp
  obtain ⟨a4, qa4⟩ : ∃ z_, z_ = a3.put (some 21) (.int .i64 (q)) := ⟨_, rfl⟩
  have k4 : Ev.Stay [18, 19, 20, 21, 22, 23, 24, 25, 26, 27, 28, 29, 30, 31, 32, 33, 34, 35, 36, 37, 38, 39, 40, 41, 42, 43, 44, 45, 46, 47, 48, 49, 50, 51] a a4 := by rw [qa4]; exact k3.put (by decide) _
  have e4_0 := Ev.oth qa4 (by decide) e3_0
  have e4_1 := Ev.oth qa4 (by decide) e3_1
  have e4_2 := Ev.oth qa4 (by decide) e3_2
  have e4_3 := Ev.oth qa4 (by decide) e3_3
  have e4_11 := Ev.oth qa4 (by decide) e3_11
  have e4_20 := Ev.oth qa4 (by decide) e3_20
  have e4_21 := Ev.sam qa4 (by rw [k3.1, hsz]; decide)
  rw [← qa4]
  clear qa4 e3_0 e3_1 e3_2 e3_3 e3_11 e3_20
  refine pure_ (i := 4) (N := some 22) (v := .pointer (some ⟨b, 0, none⟩)) #[true, true, true, true, true, false, false, false, false, false, false, false, false, false, false, false, false, false, false, false, false, false, false, false, false, false, false, false, false, false, false, false, false, false] (Rg.of hops (Rg.atS (Rg.atS (Rg.atS (Rg.atS Rg.at0))))) rfl (by kernel_rfl) (fun c _ _ h => hP c _ _ _ (by rfl) h) (Or.inl ⟨Ev.wantedG rfl (Rg.of hops (Rg.atS (Rg.atS Rg.at0))) rfl e4_20, fun w_ => ?_⟩) rfl ?_
  · unfold execOp
    generalize a4.eval = ev at *
    go_simp
  obtain ⟨a5, qa5⟩ : ∃ z_, z_ = a4.put (some 22) (.pointer (some ⟨b, 0, none⟩)) := ⟨_, rfl⟩
  have k5 : Ev.Stay [18, 19, 20, 21, 22, 23, 24, 25, 26, 27, 28, 29, 30, 31, 32, 33, 34, 35, 36, 37, 38, 39, 40, 41, 42, 43, 44, 45, 46, 47, 48, 49, 50, 51] a a5 := by rw [qa5]; exact k4.put (by decide) _
  have e5_0 := Ev.oth qa5 (by decide) e4_0
  have e5_1 := Ev.oth qa5 (by decide) e4_1
  have e5_2 := Ev.oth qa5 (by decide) e4_2
  have e5_3 := Ev.oth qa5 (by decide) e4_3
  have e5_11 := Ev.oth qa5 (by decide) e4_11
  have e5_20 := Ev.oth qa5 (by decide) e4_20
  have e5_21 := Ev.oth qa5 (by decide) e4_21
  have e5_22 := Ev.sam qa5 (by rw [k4.1, hsz]; decide)
  rw [← qa5]
  clear qa5 e4_0 e4_1 e4_2 e4_3 e4_11 e4_20 e4_21
  refine pure_ (i := 5) (N := some 23) (v := .pointer (some ⟨b, 0, none⟩)) #[true, true, true, true, true, true, false, false, false, false, false, false, false, false, false, false, false, false, false, false, false, false, false, false, false, false, false, false, false, false, false, false, false, false] (Rg.of hops (Rg.atS (Rg.atS (Rg.atS (Rg.atS (Rg.atS Rg.at0)))))) rfl (by kernel_rfl) (fun c _ _ h => hP c _ _ _ (by rfl) h) (Or.inl ⟨Ev.wantedG rfl (Rg.of hops (Rg.atS (Rg.atS Rg.at0))) rfl e5_20, fun w_ => ?_⟩) rfl ?_
  · unfold execOp
    generalize a5.eval = ev at *
    go_simp
  obtain ⟨a6, qa6⟩ : ∃ z_, z_ = a5.put (some 23) (.pointer (some ⟨b, 0, none⟩)) := ⟨_, rfl⟩
  have k6 : Ev.Stay [18, 19, 20, 21, 22, 23, 24, 25, 26, 27, 28, 29, 30, 31, 32, 33, 34, 35, 36, 37, 38, 39, 40, 41, 42, 43, 44, 45, 46, 47, 48, 49, 50, 51] a a6 := by rw [qa6]; exact k5.put (by decide) _
  have e6_0 := Ev.oth qa6 (by decide) e5_0
  have e6_1 := Ev.oth qa6 (by decide) e5_1
  have e6_2 := Ev.oth qa6 (by decide) e5_2
  have e6_3 := Ev.oth qa6 (by decide) e5_3
  have e6_11 := Ev.oth qa6 (by decide) e5_11
  have e6_20 := Ev.oth qa6 (by decide) e5_20
  have e6_21 := Ev.oth qa6 (by decide) e5_21
  have e6_22 := Ev.oth qa6 (by decide) e5_22
  have e6_23 := Ev.sam qa6 (by rw [k5.1, hsz]; decide)
  rw [← qa6]
  clear qa6 e5_0 e5_1 e5_2 e5_3 e5_11 e5_20 e5_21 e5_22
  clear e6_22
  refine pure_ (i := 6) (N := some 24) (v := .pointer (some ⟨b, 0, none⟩)) #[true, true, true, true, true, true, true, false, false, false, false, false, false, false, false, false, false, false, false, false, false, false, false, false, false, false, false, false, false, false, false, false, false, false] (Rg.of hops (Rg.atS (Rg.atS (Rg.atS (Rg.atS (Rg.atS (Rg.atS Rg.at0))))))) rfl (by kernel_rfl) (fun c _ _ h => hP c _ _ _ (by rfl) h) (Or.inl ⟨Ev.wantedG rfl (Rg.of hops (Rg.atS (Rg.atS Rg.at0))) rfl e6_20, fun w_ => ?_⟩) rfl ?_
  · unfold execOp
    generalize a6.eval = ev at *
    go_simp
  obtain ⟨a7, qa7⟩ : ∃ z_, z_ = a6.put (some 24) (.pointer (some ⟨b, 0, none⟩)) := ⟨_, rfl⟩
  have k7 : Ev.Stay [18, 19, 20, 21, 22, 23, 24, 25, 26, 27, 28, 29, 30, 31, 32, 33, 34, 35, 36, 37, 38, 39, 40, 41, 42, 43, 44, 45, 46, 47, 48, 49, 50, 51] a a7 := by rw [qa7]; exact k6.put (by decide) _
  have e7_0 := Ev.oth qa7 (by decide) e6_0
  have e7_1 := Ev.oth qa7 (by decide) e6_1
  have e7_2 := Ev.oth qa7 (by decide) e6_2
  have e7_3 := Ev.oth qa7 (by decide) e6_3
  have e7_11 := Ev.oth qa7 (by decide) e6_11
  have e7_20 := Ev.oth qa7 (by decide) e6_20
  have e7_21 := Ev.oth qa7 (by decide) e6_21
  have e7_23 := Ev.oth qa7 (by decide) e6_23
  have e7_24 := Ev.sam qa7 (by rw [k6.1, hsz]; decide)
  rw [← qa7]
  clear qa7 e6_0 e6_1 e6_2 e6_3 e6_11 e6_20 e6_21 e6_23
  clear e7_23
  refine take_ (i := 7) (N := some 25) (v := .int .i64 (t : Int)) #[true, true, true, true, true, true, true, true, false, false, false, false, false, false, false, false, false, false, false, false, false, false, false, false, false, false, false, false, false, false, false, false, false, false] (Rg.of hops (Rg.atS (Rg.atS (Rg.atS (Rg.atS (Rg.atS (Rg.atS (Rg.atS Rg.at0)))))))) rfl (by kernel_rfl) (fun c _ _ h => hP c _ _ _ (by rfl) h) (Ev.loadW (Ev.wantedG rfl (Rg.of hops (Rg.atS (Rg.atS Rg.at0))) rfl e7_20) rfl e7_24 (fun w hw => Ev.load3 (blk_t hw))) hHeld rfl ?_
  obtain ⟨a8, qa8⟩ : ∃ z_, z_ = a7.put (some 25) (.int .i64 (t : Int)) := ⟨_, rfl⟩
  have k8 : Ev.Stay [18, 19, 20, 21, 22, 23, 24, 25, 26, 27, 28, 29, 30, 31, 32, 33, 34, 35, 36, 37, 38, 39, 40, 41, 42, 43, 44, 45, 46, 47, 48, 49, 50, 51] a a8 := by rw [qa8]; exact k7.put (by decide) _
  have e8_0 := Ev.oth qa8 (by decide) e7_0
  have e8_1 := Ev.oth qa8 (by decide) e7_1
  have e8_2 := Ev.oth qa8 (by decide) e7_2
  have e8_3 := Ev.oth qa8 (by decide) e7_3
  have e8_11 := Ev.oth qa8 (by decide) e7_11
  have e8_20 := Ev.oth qa8 (by decide) e7_20
  have e8_21 := Ev.oth qa8 (by decide) e7_21
  have e8_24 := Ev.oth qa8 (by decide) e7_24
  have e8_25 := Ev.sam qa8 (by rw [k7.1, hsz]; decide)
  rw [← qa8]
  clear qa8 e7_0 e7_1 e7_2 e7_3 e7_11 e7_20 e7_21 e7_24
  clear e8_24
  refine pure_ (i := 8) (N := some 26) (v := .pointer (some ⟨b, 0, none⟩)) #[true, true, true, true, true, true, true, true, true, false, false, false, false, false, false, false, false, false, false, false, false, false, false, false, false, false, false, false, false, false, false, false, false, false] (Rg.of hops (Rg.atS (Rg.atS (Rg.atS (Rg.atS (Rg.atS (Rg.atS (Rg.atS (Rg.atS Rg.at0))))))))) rfl (by kernel_rfl) (fun c _ _ h => hP c _ _ _ (by rfl) h) (Or.inl ⟨Ev.wantedG rfl (Rg.of hops (Rg.atS (Rg.atS Rg.at0))) rfl e8_20, fun w_ => ?_⟩) rfl ?_
  · unfold execOp
    generalize a8.eval = ev at *
    go_simp
  obtain ⟨a9, qa9⟩ : ∃ z_, z_ = a8.put (some 26) (.pointer (some ⟨b, 0, none⟩)) := ⟨_, rfl⟩
  have k9 : Ev.Stay [18, 19, 20, 21, 22, 23, 24, 25, 26, 27, 28, 29, 30, 31, 32, 33, 34, 35, 36, 37, 38, 39, 40, 41, 42, 43, 44, 45, 46, 47, 48, 49, 50, 51] a a9 := by rw [qa9]; exact k8.put (by decide) _
  have e9_0 := Ev.oth qa9 (by decide) e8_0
  have e9_1 := Ev.oth qa9 (by decide) e8_1
  have e9_2 := Ev.oth qa9 (by decide) e8_2
  have e9_3 := Ev.oth qa9 (by decide) e8_3
  have e9_11 := Ev.oth qa9 (by decide) e8_11
  have e9_20 := Ev.oth qa9 (by decide) e8_20
  have e9_21 := Ev.oth qa9 (by decide) e8_21
  have e9_25 := Ev.oth qa9 (by decide) e8_25
  have e9_26 := Ev.sam qa9 (by rw [k8.1, hsz]; decide)
  rw [← qa9]
  clear qa9 e8_0 e8_1 e8_2 e8_3 e8_11 e8_20 e8_21 e8_25
  refine pure_ (i := 9) (N := some 27) (v := .pointer (some ⟨b, 0, none⟩)) #[true, true, true, true, true, true, true, true, true, true, false, false, false, false, false, false, false, false, false, false, false, false, false, false, false, false, false, false, false, false, false, false, false, false] (Rg.of hops (Rg.atS (Rg.atS (Rg.atS (Rg.atS (Rg.atS (Rg.atS (Rg.atS (Rg.atS (Rg.atS Rg.at0)))))))))) rfl (by kernel_rfl) (fun c _ _ h => hP c _ _ _ (by rfl) h) (Or.inl ⟨Ev.wantedG rfl (Rg.of hops (Rg.atS (Rg.atS Rg.at0))) rfl e9_20, fun w_ => ?_⟩) rfl ?_
  · unfold execOp
    generalize a9.eval = ev at *
    go_simp
  obtain ⟨a10, qa10⟩ : ∃ z_, z_ = a9.put (some 27) (.pointer (some ⟨b, 0, none⟩)) := ⟨_, rfl⟩
  have k10 : Ev.Stay [18, 19, 20, 21, 22, 23, 24, 25, 26, 27, 28, 29, 30, 31, 32, 33, 34, 35, 36, 37, 38, 39, 40, 41, 42, 43, 44, 45, 46, 47, 48, 49, 50, 51] a a10 := by rw [qa10]; exact k9.put (by decide) _
  have e10_0 := Ev.oth qa10 (by decide) e9_0
  have e10_1 := Ev.oth qa10 (by decide) e9_1
  have e10_2 := Ev.oth qa10 (by decide) e9_2
  have e10_3 := Ev.oth qa10 (by decide) e9_3
  have e10_11 := Ev.oth qa10 (by decide) e9_11
  have e10_20 := Ev.oth qa10 (by decide) e9_20
  have e10_21 := Ev.oth qa10 (by decide) e9_21
  have e10_25 := Ev.oth qa10 (by decide) e9_25
  have e10_26 := Ev.oth qa10 (by decide) e9_26
  have e10_27 := Ev.sam qa10 (by rw [k9.1, hsz]; decide)
  rw [← qa10]
  clear qa10 e9_0 e9_1 e9_2 e9_3 e9_11 e9_20 e9_21 e9_25 e9_26
  clear e10_26
  refine pure_ (i := 10) (N := some 28) (v := .pointer (some ⟨b, 0, none⟩)) #[true, true, true, true, true, true, true, true, true, true, true, false, false, false, false, false, false, false, false, false, false, false, false, false, false, false, false, false, false, false, false, false, false, false] (Rg.of hops (Rg.atS (Rg.atS (Rg.atS (Rg.atS (Rg.atS (Rg.atS (Rg.atS (Rg.atS (Rg.atS (Rg.atS Rg.at0))))))))))) rfl (by kernel_rfl) (fun c _ _ h => hP c _ _ _ (by rfl) h) (Or.inl ⟨Ev.wantedG rfl (Rg.of hops (Rg.atS (Rg.atS Rg.at0))) rfl e10_20, fun w_ => ?_⟩) rfl ?_
  · unfold execOp
    generalize a10.eval = ev at *
    go_simp
  obtain ⟨a11, qa11⟩ : ∃ z_, z_ = a10.put (some 28) (.pointer (some ⟨b, 0, none⟩)) := ⟨_, rfl⟩
  have k11 : Ev.Stay [18, 19, 20, 21, 22, 23, 24, 25, 26, 27, 28, 29, 30, 31, 32, 33, 34, 35, 36, 37, 38, 39, 40, 41, 42, 43, 44, 45, 46, 47, 48, 49, 50, 51] a a11 := by rw [qa11]; exact k10.put (by decide) _
  have e11_0 := Ev.oth qa11 (by decide) e10_0
  have e11_1 := Ev.oth qa11 (by decide) e10_1
  have e11_2 := Ev.oth qa11 (by decide) e10_2
  have e11_3 := Ev.oth qa11 (by decide) e10_3
  have e11_11 := Ev.oth qa11 (by decide) e10_11
  have e11_20 := Ev.oth qa11 (by decide) e10_20
  have e11_21 := Ev.oth qa11 (by decide) e10_21
  have e11_25 := Ev.oth qa11 (by decide) e10_25
  have e11_27 := Ev.oth qa11 (by decide) e10_27
  have e11_28 := Ev.sam qa11 (by rw [k10.1, hsz]; decide)
  rw [← qa11]
  clear qa11 e10_0 e10_1 e10_2 e10_3 e10_11 e10_20 e10_21 e10_25 e10_27
  clear e11_27
  refine take_ (i := 11) (N := some 29) (v := .int .i64 (t : Int)) #[true, true, true, true, true, true, true, true, true, true, true, true, false, false, false, false, false, false, false, false, false, false, false, false, false, false, false, false, false, false, false, false, false, false] (Rg.of hops (Rg.atS (Rg.atS (Rg.atS (Rg.atS (Rg.atS (Rg.atS (Rg.atS (Rg.atS (Rg.atS (Rg.atS (Rg.atS Rg.at0)))))))))))) rfl (by kernel_rfl) (fun c _ _ h => hP c _ _ _ (by rfl) h) (Ev.loadW (Ev.wantedG rfl (Rg.of hops (Rg.atS (Rg.atS Rg.at0))) rfl e11_20) rfl e11_28 (fun w hw => Ev.load3 (blk_t hw))) hHeld rfl ?_
  obtain ⟨a12, qa12⟩ : ∃ z_, z_ = a11.put (some 29) (.int .i64 (t : Int)) := ⟨_, rfl⟩
  have k12 : Ev.Stay [18, 19, 20, 21, 22, 23, 24, 25, 26, 27, 28, 29, 30, 31, 32, 33, 34, 35, 36, 37, 38, 39, 40, 41, 42, 43, 44, 45, 46, 47, 48, 49, 50, 51] a a12 := by rw [qa12]; exact k11.put (by decide) _
  have e12_0 := Ev.oth qa12 (by decide) e11_0
  have e12_1 := Ev.oth qa12 (by decide) e11_1
  have e12_2 := Ev.oth qa12 (by decide) e11_2
  have e12_3 := Ev.oth qa12 (by decide) e11_3
  have e12_11 := Ev.oth qa12 (by decide) e11_11
  have e12_20 := Ev.oth qa12 (by decide) e11_20
  have e12_21 := Ev.oth qa12 (by decide) e11_21
  have e12_25 := Ev.oth qa12 (by decide) e11_25
  have e12_28 := Ev.oth qa12 (by decide) e11_28
  have e12_29 := Ev.sam qa12 (by rw [k11.1, hsz]; decide)
  rw [← qa12]
  clear qa12 e11_0 e11_1 e11_2 e11_3 e11_11 e11_20 e11_21 e11_25 e11_28
  clear e12_28
  refine pure_ (i := 12) (N := some 30) (v := .int .i64 ((t * t : Nat) : Int)) #[true, true, true, true, true, true, true, true, true, true, true, true, true, false, false, false, false, false, false, false, false, false, false, false, false, false, false, false, false, false, false, false, false, false] (Rg.of hops (Rg.atS (Rg.atS (Rg.atS (Rg.atS (Rg.atS (Rg.atS (Rg.atS (Rg.atS (Rg.atS (Rg.atS (Rg.atS (Rg.atS Rg.at0))))))))))))) rfl (by kernel_rfl) (fun c _ _ h => hP c _ _ _ (by rfl) h) (Or.inl ⟨Ev.wantedG rfl (Rg.of hops (Rg.atS (Rg.atS Rg.at0))) rfl e12_20, fun w_ => ?_⟩) rfl ?_
  · have t3_ : t * t ≤ 9 := Nat.mul_le_mul ht.2 ht.2
    have e_ : ((t * t : Nat) : Int) = (t : Int) * (t : Int) := by simp
    unfold execOp
    generalize a12.eval = ev at *
    (go_simp; rw [← e_]; exact wr (by omega) (by omega))
  obtain ⟨a13, qa13⟩ : ∃ z_, z_ = a12.put (some 30) (.int .i64 ((t * t : Nat) : Int)) := ⟨_, rfl⟩
  have k13 : Ev.Stay [18, 19, 20, 21, 22, 23, 24, 25, 26, 27, 28, 29, 30, 31, 32, 33, 34, 35, 36, 37, 38, 39, 40, 41, 42, 43, 44, 45, 46, 47, 48, 49, 50, 51] a a13 := by rw [qa13]; exact k12.put (by decide) _
  have e13_0 := Ev.oth qa13 (by decide) e12_0
  have e13_1 := Ev.oth qa13 (by decide) e12_1
  have e13_2 := Ev.oth qa13 (by decide) e12_2
  have e13_3 := Ev.oth qa13 (by decide) e12_3
  have e13_11 := Ev.oth qa13 (by decide) e12_11
  have e13_20 := Ev.oth qa13 (by decide) e12_20
  have e13_21 := Ev.oth qa13 (by decide) e12_21
  have e13_25 := Ev.oth qa13 (by decide) e12_25
  have e13_29 := Ev.oth qa13 (by decide) e12_29
  have e13_30 := Ev.sam qa13 (by rw [k12.1, hsz]; decide)
  rw [← qa13]
  clear qa13 e12_0 e12_1 e12_2 e12_3 e12_11 e12_20 e12_21 e12_25 e12_29
  clear e13_25
  clear e13_29
  refine pure_ (i := 13) (N := some 31) (v := .int .i64 ((2 ^ (t * t) : Nat) : Int)) #[true, true, true, true, true, true, true, true, true, true, true, true, true, true, false, false, false, false, false, false, false, false, false, false, false, false, false, false, false, false, false, false, false, false] (Rg.of hops (Rg.atS (Rg.atS (Rg.atS (Rg.atS (Rg.atS (Rg.atS (Rg.atS (Rg.atS (Rg.atS (Rg.atS (Rg.atS (Rg.atS (Rg.atS Rg.at0)))))))))))))) rfl (by kernel_rfl) (fun c _ _ h => hP c _ _ _ (by rfl) h) (Or.inl ⟨Ev.wantedG rfl (Rg.of hops (Rg.atS (Rg.atS Rg.at0))) rfl e13_20, fun w_ => ?_⟩) rfl ?_
  · have ec0 : a13.eval (.const (.int .i64 (1))) = .int .i64 (1) := rfl
    have t3_ : t * t ≤ 9 := Nat.mul_le_mul ht.2 ht.2
    have e_ : ((t * t : Nat) : Int) = (t : Int) * (t : Int) := by simp
    have l0_ : (0 : Int) ≤ (t : Int) * (t : Int) := by omega
    have l1_ : ((t : Int) * (t : Int)).toNat = t * t := by omega
    have mn_ : min (t * t) 64 = t * t := by omega
    have hp_ := pow_tt ht
    clear e_
    unfold execOp
    generalize a13.eval = ev at *
    (go_simp; try exact hp_)
  obtain ⟨a14, qa14⟩ : ∃ z_, z_ = a13.put (some 31) (.int .i64 ((2 ^ (t * t) : Nat) : Int)) := ⟨_, rfl⟩
  have k14 : Ev.Stay [18, 19, 20, 21, 22, 23, 24, 25, 26, 27, 28, 29, 30, 31, 32, 33, 34, 35, 36, 37, 38, 39, 40, 41, 42, 43, 44, 45, 46, 47, 48, 49, 50, 51] a a14 := by rw [qa14]; exact k13.put (by decide) _
  have e14_0 := Ev.oth qa14 (by decide) e13_0
  have e14_1 := Ev.oth qa14 (by decide) e13_1
  have e14_2 := Ev.oth qa14 (by decide) e13_2
  have e14_3 := Ev.oth qa14 (by decide) e13_3
  have e14_11 := Ev.oth qa14 (by decide) e13_11
  have e14_20 := Ev.oth qa14 (by decide) e13_20
  have e14_21 := Ev.oth qa14 (by decide) e13_21
  have e14_30 := Ev.oth qa14 (by decide) e13_30
  have e14_31 := Ev.sam qa14 (by rw [k13.1, hsz]; decide)
  rw [← qa14]
  clear qa14 e13_0 e13_1 e13_2 e13_3 e13_11 e13_20 e13_21 e13_30
  clear e14_30
  refine pure_ (i := 14) (N := some 32) (v := .bool false) #[true, true, true, true, true, true, true, true, true, true, true, true, true, true, true, false, false, false, false, false, false, false, false, false, false, false, false, false, false, false, false, false, false, false] (Rg.of hops (Rg.atS (Rg.atS (Rg.atS (Rg.atS (Rg.atS (Rg.atS (Rg.atS (Rg.atS (Rg.atS (Rg.atS (Rg.atS (Rg.atS (Rg.atS (Rg.atS Rg.at0))))))))))))))) rfl (by kernel_rfl) (fun c _ _ h => hP c _ _ _ (by rfl) h) (Or.inl ⟨Ev.wantedG rfl (Rg.of hops (Rg.atS (Rg.atS Rg.at0))) rfl e14_20, fun w_ => ?_⟩) rfl ?_
  · have f_ : decide (((2 ^ (t * t) : Nat) : Int) ≤ q) = false := by simpa using b1
    have f2_ := b1
    unfold execOp
    generalize a14.eval = ev at *
    (go_simp; try (first | exact b1 | (simp at f2_ ⊢; omega) | simpa using f2_))
  obtain ⟨a15, qa15⟩ : ∃ z_, z_ = a14.put (some 32) (.bool false) := ⟨_, rfl⟩
  have k15 : Ev.Stay [18, 19, 20, 21, 22, 23, 24, 25, 26, 27, 28, 29, 30, 31, 32, 33, 34, 35, 36, 37, 38, 39, 40, 41, 42, 43, 44, 45, 46, 47, 48, 49, 50, 51] a a15 := by rw [qa15]; exact k14.put (by decide) _
  have e15_0 := Ev.oth qa15 (by decide) e14_0
  have e15_1 := Ev.oth qa15 (by decide) e14_1
  have e15_2 := Ev.oth qa15 (by decide) e14_2
  have e15_3 := Ev.oth qa15 (by decide) e14_3
  have e15_11 := Ev.oth qa15 (by decide) e14_11
  have e15_20 := Ev.oth qa15 (by decide) e14_20
  have e15_21 := Ev.oth qa15 (by decide) e14_21
  have e15_31 := Ev.oth qa15 (by decide) e14_31
  have e15_32 := Ev.sam qa15 (by rw [k14.1, hsz]; decide)
  rw [← qa15]
  clear qa15 e14_0 e14_1 e14_2 e14_3 e14_11 e14_20 e14_21 e14_31
  clear e15_21
  clear e15_31
  refine pure_ (i := 15) (N := some 33) (v := .bool false) #[true, true, true, true, true, true, true, true, true, true, true, true, true, true, true, true, false, false, false, false, false, false, false, false, false, false, false, false, false, false, false, false, false, false] (Rg.of hops (Rg.atS (Rg.atS (Rg.atS (Rg.atS (Rg.atS (Rg.atS (Rg.atS (Rg.atS (Rg.atS (Rg.atS (Rg.atS (Rg.atS (Rg.atS (Rg.atS (Rg.atS Rg.at0)))))))))))))))) rfl (by kernel_rfl) (fun c _ _ h => hP c _ _ _ (by rfl) h) (Or.inl ⟨Ev.wanted rfl, fun w_ => ?_⟩) rfl ?_
  · have ec0 : a15.eval (.const (.bool true)) = .bool true := rfl
    unfold execOp
    generalize a15.eval = ev at *
    go_simp
  obtain ⟨a16, qa16⟩ : ∃ z_, z_ = a15.put (some 33) (.bool false) := ⟨_, rfl⟩
  have k16 : Ev.Stay [18, 19, 20, 21, 22, 23, 24, 25, 26, 27, 28, 29, 30, 31, 32, 33, 34, 35, 36, 37, 38, 39, 40, 41, 42, 43, 44, 45, 46, 47, 48, 49, 50, 51] a a16 := by rw [qa16]; exact k15.put (by decide) _
  have e16_0 := Ev.oth qa16 (by decide) e15_0
  have e16_1 := Ev.oth qa16 (by decide) e15_1
  have e16_2 := Ev.oth qa16 (by decide) e15_2
  have e16_3 := Ev.oth qa16 (by decide) e15_3
  have e16_11 := Ev.oth qa16 (by decide) e15_11
  have e16_20 := Ev.oth qa16 (by decide) e15_20
  have e16_32 := Ev.oth qa16 (by decide) e15_32
  have e16_33 := Ev.sam qa16 (by rw [k15.1, hsz]; decide)
  rw [← qa16]
  clear qa16 e15_0 e15_1 e15_2 e15_3 e15_11 e15_20 e15_32
  clear e16_20
  clear e16_32
  refine pure_ (i := 16) (N := some 34) (v := .bool false) #[true, true, true, true, true, true, true, true, true, true, true, true, true, true, true, true, true, false, false, false, false, false, false, false, false, false, false, false, false, false, false, false, false, false] (Rg.of hops (Rg.atS (Rg.atS (Rg.atS (Rg.atS (Rg.atS (Rg.atS (Rg.atS (Rg.atS (Rg.atS (Rg.atS (Rg.atS (Rg.atS (Rg.atS (Rg.atS (Rg.atS (Rg.atS Rg.at0))))))))))))))))) rfl (by kernel_rfl) (fun c _ _ h => hP c _ _ _ (by rfl) h) (Or.inl ⟨Ev.wanted rfl, fun w_ => ?_⟩) rfl ?_
  · unfold execOp
    generalize a16.eval = ev at *
    go_simp
  obtain ⟨a17, qa17⟩ : ∃ z_, z_ = a16.put (some 34) (.bool false) := ⟨_, rfl⟩
  have k17 : Ev.Stay [18, 19, 20, 21, 22, 23, 24, 25, 26, 27, 28, 29, 30, 31, 32, 33, 34, 35, 36, 37, 38, 39, 40, 41, 42, 43, 44, 45, 46, 47, 48, 49, 50, 51] a a17 := by rw [qa17]; exact k16.put (by decide) _
  have e17_0 := Ev.oth qa17 (by decide) e16_0
  have e17_1 := Ev.oth qa17 (by decide) e16_1
  have e17_2 := Ev.oth qa17 (by decide) e16_2
  have e17_3 := Ev.oth qa17 (by decide) e16_3
  have e17_11 := Ev.oth qa17 (by decide) e16_11
  have e17_33 := Ev.oth qa17 (by decide) e16_33
  have e17_34 := Ev.sam qa17 (by rw [k16.1, hsz]; decide)
  rw [← qa17]
  clear qa17 e16_0 e16_1 e16_2 e16_3 e16_11 e16_33
  clear e17_33
  refine pure_ (i := 17) (N := some 35) (v := .int .i64 (p)) #[true, true, true, true, true, true, true, true, true, true, true, true, true, true, true, true, true, true, false, false, false, false, false, false, false, false, false, false, false, false, false, false, false, false] (Rg.of hops (Rg.atS (Rg.atS (Rg.atS (Rg.atS (Rg.atS (Rg.atS (Rg.atS (Rg.atS (Rg.atS (Rg.atS (Rg.atS (Rg.atS (Rg.atS (Rg.atS (Rg.atS (Rg.atS (Rg.atS Rg.at0)))))))))))))))))) rfl (by kernel_rfl) (fun c _ _ h => hP c _ _ _ (by rfl) h) (Or.inl ⟨Ev.wantedG rfl (Rg.of hops (Rg.atS (Rg.atS (Rg.atS (Rg.atS (Rg.atS (Rg.atS (Rg.atS (Rg.atS (Rg.atS (Rg.atS (Rg.atS (Rg.atS (Rg.atS (Rg.atS (Rg.atS (Rg.atS Rg.at0))))))))))))))))) rfl e17_34, fun w_ => ?_⟩) rfl ?_
  · unfold execOp
    generalize a17.eval = ev at *
    go_simp
  obtain ⟨a18, qa18⟩ : ∃ z_, z_ = a17.put (some 35) (.int .i64 (p)) := ⟨_, rfl⟩
  have k18 : Ev.Stay [18, 19, 20, 21, 22, 23, 24, 25, 26, 27, 28, 29, 30, 31, 32, 33, 34, 35, 36, 37, 38, 39, 40, 41, 42, 43, 44, 45, 46, 47, 48, 49, 50, 51] a a18 := by rw [qa18]; exact k17.put (by decide) _
  have e18_0 := Ev.oth qa18 (by decide) e17_0
  have e18_1 := Ev.oth qa18 (by decide) e17_1
  have e18_2 := Ev.oth qa18 (by decide) e17_2
  have e18_3 := Ev.oth qa18 (by decide) e17_3
  have e18_11 := Ev.oth qa18 (by decide) e17_11
  have e18_34 := Ev.oth qa18 (by decide) e17_34
  have e18_35 := Ev.sam qa18 (by rw [k17.1, hsz]; decide)
  rw [← qa18]
  clear qa18 e17_0 e17_1 e17_2 e17_3 e17_11 e17_34
  refine pure_ (i := 18) (N := some 36) (v := .bool false) #[true, true, true, true, true, true, true, true, true, true, true, true, true, true, true, true, true, true, true, false, false, false, false, false, false, false, false, false, false, false, false, false, false, false] (Rg.of hops (Rg.atS (Rg.atS (Rg.atS (Rg.atS (Rg.atS (Rg.atS (Rg.atS (Rg.atS (Rg.atS (Rg.atS (Rg.atS (Rg.atS (Rg.atS (Rg.atS (Rg.atS (Rg.atS (Rg.atS (Rg.atS Rg.at0))))))))))))))))))) rfl (by kernel_rfl) (fun c _ _ h => hP c _ _ _ (by rfl) h) (Or.inl ⟨Ev.wantedG rfl (Rg.of hops (Rg.atS (Rg.atS (Rg.atS (Rg.atS (Rg.atS (Rg.atS (Rg.atS (Rg.atS (Rg.atS (Rg.atS (Rg.atS (Rg.atS (Rg.atS (Rg.atS (Rg.atS (Rg.atS Rg.at0))))))))))))))))) rfl e18_34, fun w_ => ?_⟩) rfl ?_
  · have ec0 : a18.eval (.const (.int .i64 (0))) = .int .i64 (0) := rfl
    have f_ : decide (p < 0) = false := by simpa using b2
    have f2_ := b2
    unfold execOp
    generalize a18.eval = ev at *
    go_simp
  obtain ⟨a19, qa19⟩ : ∃ z_, z_ = a18.put (some 36) (.bool false) := ⟨_, rfl⟩
  have k19 : Ev.Stay [18, 19, 20, 21, 22, 23, 24, 25, 26, 27, 28, 29, 30, 31, 32, 33, 34, 35, 36, 37, 38, 39, 40, 41, 42, 43, 44, 45, 46, 47, 48, 49, 50, 51] a a19 := by rw [qa19]; exact k18.put (by decide) _
  have e19_0 := Ev.oth qa19 (by decide) e18_0
  have e19_1 := Ev.oth qa19 (by decide) e18_1
  have e19_2 := Ev.oth qa19 (by decide) e18_2
  have e19_3 := Ev.oth qa19 (by decide) e18_3
  have e19_11 := Ev.oth qa19 (by decide) e18_11
  have e19_34 := Ev.oth qa19 (by decide) e18_34
  have e19_35 := Ev.oth qa19 (by decide) e18_35
  have e19_36 := Ev.sam qa19 (by rw [k18.1, hsz]; decide)
  rw [← qa19]
  clear qa19 e18_0 e18_1 e18_2 e18_3 e18_11 e18_34 e18_35
  clear e19_35
  refine pure_ (i := 19) (N := some 37) (v := .bool false) #[true, true, true, true, true, true, true, true, true, true, true, true, true, true, true, true, true, true, true, true, false, false, false, false, false, false, false, false, false, false, false, false, false, false] (Rg.of hops (Rg.atS (Rg.atS (Rg.atS (Rg.atS (Rg.atS (Rg.atS (Rg.atS (Rg.atS (Rg.atS (Rg.atS (Rg.atS (Rg.atS (Rg.atS (Rg.atS (Rg.atS (Rg.atS (Rg.atS (Rg.atS (Rg.atS Rg.at0)))))))))))))))))))) rfl (by kernel_rfl) (fun c _ _ h => hP c _ _ _ (by rfl) h) (Or.inl ⟨Ev.wanted rfl, fun w_ => ?_⟩) rfl ?_
  · have ec0 : a19.eval (.const (.bool true)) = .bool true := rfl
    unfold execOp
    generalize a19.eval = ev at *
    go_simp
  obtain ⟨a20, qa20⟩ : ∃ z_, z_ = a19.put (some 37) (.bool false) := ⟨_, rfl⟩
  have k20 : Ev.Stay [18, 19, 20, 21, 22, 23, 24, 25, 26, 27, 28, 29, 30, 31, 32, 33, 34, 35, 36, 37, 38, 39, 40, 41, 42, 43, 44, 45, 46, 47, 48, 49, 50, 51] a a20 := by rw [qa20]; exact k19.put (by decide) _
  have e20_0 := Ev.oth qa20 (by decide) e19_0
  have e20_1 := Ev.oth qa20 (by decide) e19_1
  have e20_2 := Ev.oth qa20 (by decide) e19_2
  have e20_3 := Ev.oth qa20 (by decide) e19_3
  have e20_11 := Ev.oth qa20 (by decide) e19_11
  have e20_34 := Ev.oth qa20 (by decide) e19_34
  have e20_36 := Ev.oth qa20 (by decide) e19_36
  have e20_37 := Ev.sam qa20 (by rw [k19.1, hsz]; decide)
  rw [← qa20]
  clear qa20 e19_0 e19_1 e19_2 e19_3 e19_11 e19_34 e19_36
  clear e20_34
  clear e20_36
  refine pure_ (i := 20) (N := some 38) (v := .bool false) #[true, true, true, true, true, true, true, true, true, true, true, true, true, true, true, true, true, true, true, true, true, false, false, false, false, false, false, false, false, false, false, false, false, false] (Rg.of hops (Rg.atS (Rg.atS (Rg.atS (Rg.atS (Rg.atS (Rg.atS (Rg.atS (Rg.atS (Rg.atS (Rg.atS (Rg.atS (Rg.atS (Rg.atS (Rg.atS (Rg.atS (Rg.atS (Rg.atS (Rg.atS (Rg.atS (Rg.atS Rg.at0))))))))))))))))))))) rfl (by kernel_rfl) (fun c _ _ h => hP c _ _ _ (by rfl) h) (Or.inl ⟨Ev.wanted rfl, fun w_ => ?_⟩) rfl ?_
  · unfold execOp
    generalize a20.eval = ev at *
    go_simp
  obtain ⟨a21, qa21⟩ : ∃ z_, z_ = a20.put (some 38) (.bool false) := ⟨_, rfl⟩
  have k21 : Ev.Stay [18, 19, 20, 21, 22, 23, 24, 25, 26, 27, 28, 29, 30, 31, 32, 33, 34, 35, 36, 37, 38, 39, 40, 41, 42, 43, 44, 45, 46, 47, 48, 49, 50, 51] a a21 := by rw [qa21]; exact k20.put (by decide) _
  have e21_0 := Ev.oth qa21 (by decide) e20_0
  have e21_1 := Ev.oth qa21 (by decide) e20_1
  have e21_2 := Ev.oth qa21 (by decide) e20_2
  have e21_3 := Ev.oth qa21 (by decide) e20_3
  have e21_11 := Ev.oth qa21 (by decide) e20_11
  have e21_37 := Ev.oth qa21 (by decide) e20_37
  have e21_38 := Ev.sam qa21 (by rw [k20.1, hsz]; decide)
  rw [← qa21]
  clear qa21 e20_0 e20_1 e20_2 e20_3 e20_11 e20_37
  clear e21_37
  refine pure_ (i := 21) (N := some 39) (v := .int .i64 (p)) #[true, true, true, true, true, true, true, true, true, true, true, true, true, true, true, true, true, true, true, true, true, true, false, false, false, false, false, false, false, false, false, false, false, false] (Rg.of hops (Rg.atS (Rg.atS (Rg.atS (Rg.atS (Rg.atS (Rg.atS (Rg.atS (Rg.atS (Rg.atS (Rg.atS (Rg.atS (Rg.atS (Rg.atS (Rg.atS (Rg.atS (Rg.atS (Rg.atS (Rg.atS (Rg.atS (Rg.atS (Rg.atS Rg.at0)))))))))))))))))))))) rfl (by kernel_rfl) (fun c _ _ h => hP c _ _ _ (by rfl) h) (Or.inl ⟨Ev.wantedG rfl (Rg.of hops (Rg.atS (Rg.atS (Rg.atS (Rg.atS (Rg.atS (Rg.atS (Rg.atS (Rg.atS (Rg.atS (Rg.atS (Rg.atS (Rg.atS (Rg.atS (Rg.atS (Rg.atS (Rg.atS (Rg.atS (Rg.atS (Rg.atS (Rg.atS Rg.at0))))))))))))))))))))) rfl e21_38, fun w_ => ?_⟩) rfl ?_
  · unfold execOp
    generalize a21.eval = ev at *
    go_simp
  obtain ⟨a22, qa22⟩ : ∃ z_, z_ = a21.put (some 39) (.int .i64 (p)) := ⟨_, rfl⟩
  have k22 : Ev.Stay [18, 19, 20, 21, 22, 23, 24, 25, 26, 27, 28, 29, 30, 31, 32, 33, 34, 35, 36, 37, 38, 39, 40, 41, 42, 43, 44, 45, 46, 47, 48, 49, 50, 51] a a22 := by rw [qa22]; exact k21.put (by decide) _
  have e22_0 := Ev.oth qa22 (by decide) e21_0
  have e22_1 := Ev.oth qa22 (by decide) e21_1
  have e22_2 := Ev.oth qa22 (by decide) e21_2
  have e22_3 := Ev.oth qa22 (by decide) e21_3
  have e22_11 := Ev.oth qa22 (by decide) e21_11
  have e22_38 := Ev.oth qa22 (by decide) e21_38
  have e22_39 := Ev.sam qa22 (by rw [k21.1, hsz]; decide)
  rw [← qa22]
  clear qa22 e21_0 e21_1 e21_2 e21_3 e21_11 e21_38
  refine pure_ (i := 22) (N := some 40) (v := .int .i64 ((2 ^ t : Nat) : Int)) #[true, true, true, true, true, true, true, true, true, true, true, true, true, true, true, true, true, true, true, true, true, true, true, false, false, false, false, false, false, false, false, false, false, false] (Rg.of hops (Rg.atS (Rg.atS (Rg.atS (Rg.atS (Rg.atS (Rg.atS (Rg.atS (Rg.atS (Rg.atS (Rg.atS (Rg.atS (Rg.atS (Rg.atS (Rg.atS (Rg.atS (Rg.atS (Rg.atS (Rg.atS (Rg.atS (Rg.atS (Rg.atS (Rg.atS Rg.at0))))))))))))))))))))))) rfl (by kernel_rfl) (fun c _ _ h => hP c _ _ _ (by rfl) h) (Or.inl ⟨Ev.wantedG rfl (Rg.of hops (Rg.atS (Rg.atS (Rg.atS (Rg.atS (Rg.atS (Rg.atS (Rg.atS (Rg.atS (Rg.atS (Rg.atS (Rg.atS (Rg.atS (Rg.atS (Rg.atS (Rg.atS (Rg.atS (Rg.atS (Rg.atS (Rg.atS (Rg.atS Rg.at0))))))))))))))))))))) rfl e22_38, fun w_ => ?_⟩) rfl ?_
  · unfold execOp
    generalize a22.eval = ev at *
    go_simp
  obtain ⟨a23, qa23⟩ : ∃ z_, z_ = a22.put (some 40) (.int .i64 ((2 ^ t : Nat) : Int)) := ⟨_, rfl⟩
  have k23 : Ev.Stay [18, 19, 20, 21, 22, 23, 24, 25, 26, 27, 28, 29, 30, 31, 32, 33, 34, 35, 36, 37, 38, 39, 40, 41, 42, 43, 44, 45, 46, 47, 48, 49, 50, 51] a a23 := by rw [qa23]; exact k22.put (by decide) _
  have e23_0 := Ev.oth qa23 (by decide) e22_0
  have e23_1 := Ev.oth qa23 (by decide) e22_1
  have e23_2 := Ev.oth qa23 (by decide) e22_2
  have e23_3 := Ev.oth qa23 (by decide) e22_3
  have e23_11 := Ev.oth qa23 (by decide) e22_11
  have e23_38 := Ev.oth qa23 (by decide) e22_38
  have e23_39 := Ev.oth qa23 (by decide) e22_39
  have e23_40 := Ev.sam qa23 (by rw [k22.1, hsz]; decide)
  rw [← qa23]
  clear qa23 e22_0 e22_1 e22_2 e22_3 e22_11 e22_38 e22_39
  refine pure_ (i := 23) (N := some 41) (v := .bool false) #[true, true, true, true, true, true, true, true, true, true, true, true, true, true, true, true, true, true, true, true, true, true, true, true, false, false, false, false, false, false, false, false, false, false] (Rg.of hops (Rg.atS (Rg.atS (Rg.atS (Rg.atS (Rg.atS (Rg.atS (Rg.atS (Rg.atS (Rg.atS (Rg.atS (Rg.atS (Rg.atS (Rg.atS (Rg.atS (Rg.atS (Rg.atS (Rg.atS (Rg.atS (Rg.atS (Rg.atS (Rg.atS (Rg.atS (Rg.atS Rg.at0)))))))))))))))))))))))) rfl (by kernel_rfl) (fun c _ _ h => hP c _ _ _ (by rfl) h) (Or.inl ⟨Ev.wantedG rfl (Rg.of hops (Rg.atS (Rg.atS (Rg.atS (Rg.atS (Rg.atS (Rg.atS (Rg.atS (Rg.atS (Rg.atS (Rg.atS (Rg.atS (Rg.atS (Rg.atS (Rg.atS (Rg.atS (Rg.atS (Rg.atS (Rg.atS (Rg.atS (Rg.atS Rg.at0))))))))))))))))))))) rfl e23_38, fun w_ => ?_⟩) rfl ?_
  · have f_ : decide (((2 ^ t : Nat) : Int) ≤ p) = false := by simpa using b3
    have f2_ := b3
    unfold execOp
    generalize a23.eval = ev at *
    (go_simp; try (first | exact b3 | (simp at f2_ ⊢; omega) | simpa using f2_))
  obtain ⟨a24, qa24⟩ : ∃ z_, z_ = a23.put (some 41) (.bool false) := ⟨_, rfl⟩
  have k24 : Ev.Stay [18, 19, 20, 21, 22, 23, 24, 25, 26, 27, 28, 29, 30, 31, 32, 33, 34, 35, 36, 37, 38, 39, 40, 41, 42, 43, 44, 45, 46, 47, 48, 49, 50, 51] a a24 := by rw [qa24]; exact k23.put (by decide) _
  have e24_0 := Ev.oth qa24 (by decide) e23_0
  have e24_1 := Ev.oth qa24 (by decide) e23_1
  have e24_2 := Ev.oth qa24 (by decide) e23_2
  have e24_3 := Ev.oth qa24 (by decide) e23_3
  have e24_11 := Ev.oth qa24 (by decide) e23_11
  have e24_38 := Ev.oth qa24 (by decide) e23_38
  have e24_39 := Ev.oth qa24 (by decide) e23_39
  have e24_40 := Ev.oth qa24 (by decide) e23_40
  have e24_41 := Ev.sam qa24 (by rw [k23.1, hsz]; decide)
  rw [← qa24]
  clear qa24 e23_0 e23_1 e23_2 e23_3 e23_11 e23_38 e23_39 e23_40
  clear e24_39
  clear e24_40
  refine pure_ (i := 24) (N := some 42) (v := .bool false) #[true, true, true, true, true, true, true, true, true, true, true, true, true, true, true, true, true, true, true, true, true, true, true, true, true, false, false, false, false, false, false, false, false, false] (Rg.of hops (Rg.atS (Rg.atS (Rg.atS (Rg.atS (Rg.atS (Rg.atS (Rg.atS (Rg.atS (Rg.atS (Rg.atS (Rg.atS (Rg.atS (Rg.atS (Rg.atS (Rg.atS (Rg.atS (Rg.atS (Rg.atS (Rg.atS (Rg.atS (Rg.atS (Rg.atS (Rg.atS (Rg.atS Rg.at0))))))))))))))))))))))))) rfl (by kernel_rfl) (fun c _ _ h => hP c _ _ _ (by rfl) h) (Or.inl ⟨Ev.wanted rfl, fun w_ => ?_⟩) rfl ?_
  · have ec0 : a24.eval (.const (.bool true)) = .bool true := rfl
    unfold execOp
    generalize a24.eval = ev at *
    go_simp
  obtain ⟨a25, qa25⟩ : ∃ z_, z_ = a24.put (some 42) (.bool false) := ⟨_, rfl⟩
  have k25 : Ev.Stay [18, 19, 20, 21, 22, 23, 24, 25, 26, 27, 28, 29, 30, 31, 32, 33, 34, 35, 36, 37, 38, 39, 40, 41, 42, 43, 44, 45, 46, 47, 48, 49, 50, 51] a a25 := by rw [qa25]; exact k24.put (by decide) _
  have e25_0 := Ev.oth qa25 (by decide) e24_0
  have e25_1 := Ev.oth qa25 (by decide) e24_1
  have e25_2 := Ev.oth qa25 (by decide) e24_2
  have e25_3 := Ev.oth qa25 (by decide) e24_3
  have e25_11 := Ev.oth qa25 (by decide) e24_11
  have e25_38 := Ev.oth qa25 (by decide) e24_38
  have e25_41 := Ev.oth qa25 (by decide) e24_41
  have e25_42 := Ev.sam qa25 (by rw [k24.1, hsz]; decide)
  rw [← qa25]
  clear qa25 e24_0 e24_1 e24_2 e24_3 e24_11 e24_38 e24_41
  clear e25_38
  clear e25_41
  refine pure_ (i := 25) (N := some 43) (v := .bool false) #[true, true, true, true, true, true, true, true, true, true, true, true, true, true, true, true, true, true, true, true, true, true, true, true, true, true, false, false, false, false, false, false, false, false] (Rg.of hops (Rg.atS (Rg.atS (Rg.atS (Rg.atS (Rg.atS (Rg.atS (Rg.atS (Rg.atS (Rg.atS (Rg.atS (Rg.atS (Rg.atS (Rg.atS (Rg.atS (Rg.atS (Rg.atS (Rg.atS (Rg.atS (Rg.atS (Rg.atS (Rg.atS (Rg.atS (Rg.atS (Rg.atS (Rg.atS Rg.at0)))))))))))))))))))))))))) rfl (by kernel_rfl) (fun c _ _ h => hP c _ _ _ (by rfl) h) (Or.inl ⟨Ev.wanted rfl, fun w_ => ?_⟩) rfl ?_
  · unfold execOp
    generalize a25.eval = ev at *
    go_simp
  obtain ⟨a26, qa26⟩ : ∃ z_, z_ = a25.put (some 43) (.bool false) := ⟨_, rfl⟩
  have k26 : Ev.Stay [18, 19, 20, 21, 22, 23, 24, 25, 26, 27, 28, 29, 30, 31, 32, 33, 34, 35, 36, 37, 38, 39, 40, 41, 42, 43, 44, 45, 46, 47, 48, 49, 50, 51] a a26 := by rw [qa26]; exact k25.put (by decide) _
  have e26_0 := Ev.oth qa26 (by decide) e25_0
  have e26_1 := Ev.oth qa26 (by decide) e25_1
  have e26_2 := Ev.oth qa26 (by decide) e25_2
  have e26_3 := Ev.oth qa26 (by decide) e25_3
  have e26_11 := Ev.oth qa26 (by decide) e25_11
  have e26_42 := Ev.oth qa26 (by decide) e25_42
  have e26_43 := Ev.sam qa26 (by rw [k25.1, hsz]; decide)
  rw [← qa26]
  clear qa26 e25_0 e25_1 e25_2 e25_3 e25_11 e25_42
  clear e26_42
  refine pure_ (i := 26) (N := some 44) (v := .int .i64 (l)) #[true, true, true, true, true, true, true, true, true, true, true, true, true, true, true, true, true, true, true, true, true, true, true, true, true, true, true, false, false, false, false, false, false, false] (Rg.of hops (Rg.atS (Rg.atS (Rg.atS (Rg.atS (Rg.atS (Rg.atS (Rg.atS (Rg.atS (Rg.atS (Rg.atS (Rg.atS (Rg.atS (Rg.atS (Rg.atS (Rg.atS (Rg.atS (Rg.atS (Rg.atS (Rg.atS (Rg.atS (Rg.atS (Rg.atS (Rg.atS (Rg.atS (Rg.atS (Rg.atS Rg.at0))))))))))))))))))))))))))) rfl (by kernel_rfl) (fun c _ _ h => hP c _ _ _ (by rfl) h) (Or.inl ⟨Ev.wantedG rfl (Rg.of hops (Rg.atS (Rg.atS (Rg.atS (Rg.atS (Rg.atS (Rg.atS (Rg.atS (Rg.atS (Rg.atS (Rg.atS (Rg.atS (Rg.atS (Rg.atS (Rg.atS (Rg.atS (Rg.atS (Rg.atS (Rg.atS (Rg.atS (Rg.atS (Rg.atS (Rg.atS (Rg.atS (Rg.atS (Rg.atS Rg.at0)))))))))))))))))))))))))) rfl e26_43, fun w_ => ?_⟩) rfl ?_
  · unfold execOp
    generalize a26.eval = ev at *
    go_simp
  obtain ⟨a27, qa27⟩ : ∃ z_, z_ = a26.put (some 44) (.int .i64 (l)) := ⟨_, rfl⟩
  have k27 : Ev.Stay [18, 19, 20, 21, 22, 23, 24, 25, 26, 27, 28, 29, 30, 31, 32, 33, 34, 35, 36, 37, 38, 39, 40, 41, 42, 43, 44, 45, 46, 47, 48, 49, 50, 51] a a27 := by rw [qa27]; exact k26.put (by decide) _
  have e27_0 := Ev.oth qa27 (by decide) e26_0
  have e27_1 := Ev.oth qa27 (by decide) e26_1
  have e27_2 := Ev.oth qa27 (by decide) e26_2
  have e27_3 := Ev.oth qa27 (by decide) e26_3
  have e27_11 := Ev.oth qa27 (by decide) e26_11
  have e27_43 := Ev.oth qa27 (by decide) e26_43
  have e27_44 := Ev.sam qa27 (by rw [k26.1, hsz]; decide)
  rw [← qa27]
  clear qa27 e26_0 e26_1 e26_2 e26_3 e26_11 e26_43
  refine pure_ (i := 27) (N := some 45) (v := .bool false) #[true, true, true, true, true, true, true, true, true, true, true, true, true, true, true, true, true, true, true, true, true, true, true, true, true, true, true, true, false, false, false, false, false, false] (Rg.of hops (Rg.atS (Rg.atS (Rg.atS (Rg.atS (Rg.atS (Rg.atS (Rg.atS (Rg.atS (Rg.atS (Rg.atS (Rg.atS (Rg.atS (Rg.atS (Rg.atS (Rg.atS (Rg.atS (Rg.atS (Rg.atS (Rg.atS (Rg.atS (Rg.atS (Rg.atS (Rg.atS (Rg.atS (Rg.atS (Rg.atS (Rg.atS Rg.at0)))))))))))))))))))))))))))) rfl (by kernel_rfl) (fun c _ _ h => hP c _ _ _ (by rfl) h) (Or.inl ⟨Ev.wantedG rfl (Rg.of hops (Rg.atS (Rg.atS (Rg.atS (Rg.atS (Rg.atS (Rg.atS (Rg.atS (Rg.atS (Rg.atS (Rg.atS (Rg.atS (Rg.atS (Rg.atS (Rg.atS (Rg.atS (Rg.atS (Rg.atS (Rg.atS (Rg.atS (Rg.atS (Rg.atS (Rg.atS (Rg.atS (Rg.atS (Rg.atS Rg.at0)))))))))))))))))))))))))) rfl e27_43, fun w_ => ?_⟩) rfl ?_
  · have ec0 : a27.eval (.const (.int .i64 (0))) = .int .i64 (0) := rfl
    have f_ : decide (l < 0) = false := by simpa using b4
    have f2_ := b4
    unfold execOp
    generalize a27.eval = ev at *
    go_simp
  obtain ⟨a28, qa28⟩ : ∃ z_, z_ = a27.put (some 45) (.bool false) := ⟨_, rfl⟩
  have k28 : Ev.Stay [18, 19, 20, 21, 22, 23, 24, 25, 26, 27, 28, 29, 30, 31, 32, 33, 34, 35, 36, 37, 38, 39, 40, 41, 42, 43, 44, 45, 46, 47, 48, 49, 50, 51] a a28 := by rw [qa28]; exact k27.put (by decide) _
  have e28_0 := Ev.oth qa28 (by decide) e27_0
  have e28_1 := Ev.oth qa28 (by decide) e27_1
  have e28_2 := Ev.oth qa28 (by decide) e27_2
  have e28_3 := Ev.oth qa28 (by decide) e27_3
  have e28_11 := Ev.oth qa28 (by decide) e27_11
  have e28_43 := Ev.oth qa28 (by decide) e27_43
  have e28_44 := Ev.oth qa28 (by decide) e27_44
  have e28_45 := Ev.sam qa28 (by rw [k27.1, hsz]; decide)
  rw [← qa28]
  clear qa28 e27_0 e27_1 e27_2 e27_3 e27_11 e27_43 e27_44
  clear e28_44
  refine pure_ (i := 28) (N := some 46) (v := .bool false) #[true, true, true, true, true, true, true, true, true, true, true, true, true, true, true, true, true, true, true, true, true, true, true, true, true, true, true, true, true, false, false, false, false, false] (Rg.of hops (Rg.atS (Rg.atS (Rg.atS (Rg.atS (Rg.atS (Rg.atS (Rg.atS (Rg.atS (Rg.atS (Rg.atS (Rg.atS (Rg.atS (Rg.atS (Rg.atS (Rg.atS (Rg.atS (Rg.atS (Rg.atS (Rg.atS (Rg.atS (Rg.atS (Rg.atS (Rg.atS (Rg.atS (Rg.atS (Rg.atS (Rg.atS (Rg.atS Rg.at0))))))))))))))))))))))))))))) rfl (by kernel_rfl) (fun c _ _ h => hP c _ _ _ (by rfl) h) (Or.inl ⟨Ev.wanted rfl, fun w_ => ?_⟩) rfl ?_
  · have ec0 : a28.eval (.const (.bool true)) = .bool true := rfl
    unfold execOp
    generalize a28.eval = ev at *
    go_simp
  obtain ⟨a29, qa29⟩ : ∃ z_, z_ = a28.put (some 46) (.bool false) := ⟨_, rfl⟩
  have k29 : Ev.Stay [18, 19, 20, 21, 22, 23, 24, 25, 26, 27, 28, 29, 30, 31, 32, 33, 34, 35, 36, 37, 38, 39, 40, 41, 42, 43, 44, 45, 46, 47, 48, 49, 50, 51] a a29 := by rw [qa29]; exact k28.put (by decide) _
  have e29_0 := Ev.oth qa29 (by decide) e28_0
  have e29_1 := Ev.oth qa29 (by decide) e28_1
  have e29_2 := Ev.oth qa29 (by decide) e28_2
  have e29_3 := Ev.oth qa29 (by decide) e28_3
  have e29_11 := Ev.oth qa29 (by decide) e28_11
  have e29_43 := Ev.oth qa29 (by decide) e28_43
  have e29_45 := Ev.oth qa29 (by decide) e28_45
  have e29_46 := Ev.sam qa29 (by rw [k28.1, hsz]; decide)
  rw [← qa29]
  clear qa29 e28_0 e28_1 e28_2 e28_3 e28_11 e28_43 e28_45
  clear e29_43
  clear e29_45
  refine pure_ (i := 29) (N := some 47) (v := .bool false) #[true, true, true, true, true, true, true, true, true, true, true, true, true, true, true, true, true, true, true, true, true, true, true, true, true, true, true, true, true, true, false, false, false, false] (Rg.of hops (Rg.atS (Rg.atS (Rg.atS (Rg.atS (Rg.atS (Rg.atS (Rg.atS (Rg.atS (Rg.atS (Rg.atS (Rg.atS (Rg.atS (Rg.atS (Rg.atS (Rg.atS (Rg.atS (Rg.atS (Rg.atS (Rg.atS (Rg.atS (Rg.atS (Rg.atS (Rg.atS (Rg.atS (Rg.atS (Rg.atS (Rg.atS (Rg.atS (Rg.atS Rg.at0)))))))))))))))))))))))))))))) rfl (by kernel_rfl) (fun c _ _ h => hP c _ _ _ (by rfl) h) (Or.inl ⟨Ev.wanted rfl, fun w_ => ?_⟩) rfl ?_
  · unfold execOp
    generalize a29.eval = ev at *
    go_simp
  obtain ⟨a30, qa30⟩ : ∃ z_, z_ = a29.put (some 47) (.bool false) := ⟨_, rfl⟩
  have k30 : Ev.Stay [18, 19, 20, 21, 22, 23, 24, 25, 26, 27, 28, 29, 30, 31, 32, 33, 34, 35, 36, 37, 38, 39, 40, 41, 42, 43, 44, 45, 46, 47, 48, 49, 50, 51] a a30 := by rw [qa30]; exact k29.put (by decide) _
  have e30_0 := Ev.oth qa30 (by decide) e29_0
  have e30_1 := Ev.oth qa30 (by decide) e29_1
  have e30_2 := Ev.oth qa30 (by decide) e29_2
  have e30_3 := Ev.oth qa30 (by decide) e29_3
  have e30_11 := Ev.oth qa30 (by decide) e29_11
  have e30_46 := Ev.oth qa30 (by decide) e29_46
  have e30_47 := Ev.sam qa30 (by rw [k29.1, hsz]; decide)
  rw [← qa30]
  clear qa30 e29_0 e29_1 e29_2 e29_3 e29_11 e29_46
  clear e30_46
  refine pure_ (i := 30) (N := some 48) (v := .int .i64 (l)) #[true, true, true, true, true, true, true, true, true, true, true, true, true, true, true, true, true, true, true, true, true, true, true, true, true, true, true, true, true, true, true, false, false, false] (Rg.of hops (Rg.atS (Rg.atS (Rg.atS (Rg.atS (Rg.atS (Rg.atS (Rg.atS (Rg.atS (Rg.atS (Rg.atS (Rg.atS (Rg.atS (Rg.atS (Rg.atS (Rg.atS (Rg.atS (Rg.atS (Rg.atS (Rg.atS (Rg.atS (Rg.atS (Rg.atS (Rg.atS (Rg.atS (Rg.atS (Rg.atS (Rg.atS (Rg.atS (Rg.atS (Rg.atS Rg.at0))))))))))))))))))))))))))))))) rfl (by kernel_rfl) (fun c _ _ h => hP c _ _ _ (by rfl) h) (Or.inl ⟨Ev.wantedG rfl (Rg.of hops (Rg.atS (Rg.atS (Rg.atS (Rg.atS (Rg.atS (Rg.atS (Rg.atS (Rg.atS (Rg.atS (Rg.atS (Rg.atS (Rg.atS (Rg.atS (Rg.atS (Rg.atS (Rg.atS (Rg.atS (Rg.atS (Rg.atS (Rg.atS (Rg.atS (Rg.atS (Rg.atS (Rg.atS (Rg.atS (Rg.atS (Rg.atS (Rg.atS (Rg.atS Rg.at0)))))))))))))))))))))))))))))) rfl e30_47, fun w_ => ?_⟩) rfl ?_
  · unfold execOp
    generalize a30.eval = ev at *
    go_simp
  obtain ⟨a31, qa31⟩ : ∃ z_, z_ = a30.put (some 48) (.int .i64 (l)) := ⟨_, rfl⟩
  have k31 : Ev.Stay [18, 19, 20, 21, 22, 23, 24, 25, 26, 27, 28, 29, 30, 31, 32, 33, 34, 35, 36, 37, 38, 39, 40, 41, 42, 43, 44, 45, 46, 47, 48, 49, 50, 51] a a31 := by rw [qa31]; exact k30.put (by decide) _
  have e31_0 := Ev.oth qa31 (by decide) e30_0
  have e31_1 := Ev.oth qa31 (by decide) e30_1
  have e31_2 := Ev.oth qa31 (by decide) e30_2
  have e31_3 := Ev.oth qa31 (by decide) e30_3
  have e31_11 := Ev.oth qa31 (by decide) e30_11
  have e31_47 := Ev.oth qa31 (by decide) e30_47
  have e31_48 := Ev.sam qa31 (by rw [k30.1, hsz]; decide)
  rw [← qa31]
  clear qa31 e30_0 e30_1 e30_2 e30_3 e30_11 e30_47
  refine pure_ (i := 31) (N := some 49) (v := .int .i64 ((2 ^ t : Nat) : Int)) #[true, true, true, true, true, true, true, true, true, true, true, true, true, true, true, true, true, true, true, true, true, true, true, true, true, true, true, true, true, true, true, true, false, false] (Rg.of hops (Rg.atS (Rg.atS (Rg.atS (Rg.atS (Rg.atS (Rg.atS (Rg.atS (Rg.atS (Rg.atS (Rg.atS (Rg.atS (Rg.atS (Rg.atS (Rg.atS (Rg.atS (Rg.atS (Rg.atS (Rg.atS (Rg.atS (Rg.atS (Rg.atS (Rg.atS (Rg.atS (Rg.atS (Rg.atS (Rg.atS (Rg.atS (Rg.atS (Rg.atS (Rg.atS (Rg.atS Rg.at0)))))))))))))))))))))))))))))))) rfl (by kernel_rfl) (fun c _ _ h => hP c _ _ _ (by rfl) h) (Or.inl ⟨Ev.wantedG rfl (Rg.of hops (Rg.atS (Rg.atS (Rg.atS (Rg.atS (Rg.atS (Rg.atS (Rg.atS (Rg.atS (Rg.atS (Rg.atS (Rg.atS (Rg.atS (Rg.atS (Rg.atS (Rg.atS (Rg.atS (Rg.atS (Rg.atS (Rg.atS (Rg.atS (Rg.atS (Rg.atS (Rg.atS (Rg.atS (Rg.atS (Rg.atS (Rg.atS (Rg.atS (Rg.atS Rg.at0)))))))))))))))))))))))))))))) rfl e31_47, fun w_ => ?_⟩) rfl ?_
  · unfold execOp
    generalize a31.eval = ev at *
    go_simp
  obtain ⟨a32, qa32⟩ : ∃ z_, z_ = a31.put (some 49) (.int .i64 ((2 ^ t : Nat) : Int)) := ⟨_, rfl⟩
  have k32 : Ev.Stay [18, 19, 20, 21, 22, 23, 24, 25, 26, 27, 28, 29, 30, 31, 32, 33, 34, 35, 36, 37, 38, 39, 40, 41, 42, 43, 44, 45, 46, 47, 48, 49, 50, 51] a a32 := by rw [qa32]; exact k31.put (by decide) _
  have e32_0 := Ev.oth qa32 (by decide) e31_0
  have e32_1 := Ev.oth qa32 (by decide) e31_1
  have e32_2 := Ev.oth qa32 (by decide) e31_2
  have e32_3 := Ev.oth qa32 (by decide) e31_3
  have e32_11 := Ev.oth qa32 (by decide) e31_11
  have e32_47 := Ev.oth qa32 (by decide) e31_47
  have e32_48 := Ev.oth qa32 (by decide) e31_48
  have e32_49 := Ev.sam qa32 (by rw [k31.1, hsz]; decide)
  rw [← qa32]
  clear qa32 e31_0 e31_1 e31_2 e31_3 e31_11 e31_47 e31_48
  refine pure_ (i := 32) (N := some 50) (v := .bool false) #[true, true, true, true, true, true, true, true, true, true, true, true, true, true, true, true, true, true, true, true, true, true, true, true, true, true, true, true, true, true, true, true, true, false] (Rg.of hops (Rg.atS (Rg.atS (Rg.atS (Rg.atS (Rg.atS (Rg.atS (Rg.atS (Rg.atS (Rg.atS (Rg.atS (Rg.atS (Rg.atS (Rg.atS (Rg.atS (Rg.atS (Rg.atS (Rg.atS (Rg.atS (Rg.atS (Rg.atS (Rg.atS (Rg.atS (Rg.atS (Rg.atS (Rg.atS (Rg.atS (Rg.atS (Rg.atS (Rg.atS (Rg.atS (Rg.atS (Rg.atS Rg.at0))))))))))))))))))))))))))))))))) rfl (by kernel_rfl) (fun c _ _ h => hP c _ _ _ (by rfl) h) (Or.inl ⟨Ev.wantedG rfl (Rg.of hops (Rg.atS (Rg.atS (Rg.atS (Rg.atS (Rg.atS (Rg.atS (Rg.atS (Rg.atS (Rg.atS (Rg.atS (Rg.atS (Rg.atS (Rg.atS (Rg.atS (Rg.atS (Rg.atS (Rg.atS (Rg.atS (Rg.atS (Rg.atS (Rg.atS (Rg.atS (Rg.atS (Rg.atS (Rg.atS (Rg.atS (Rg.atS (Rg.atS (Rg.atS Rg.at0)))))))))))))))))))))))))))))) rfl e32_47, fun w_ => ?_⟩) rfl ?_
  · have f_ : decide (((2 ^ t : Nat) : Int) ≤ l) = false := by simpa using b5
    have f2_ := b5
    unfold execOp
    generalize a32.eval = ev at *
    (go_simp; try (first | exact b5 | (simp at f2_ ⊢; omega) | simpa using f2_))
  obtain ⟨a33, qa33⟩ : ∃ z_, z_ = a32.put (some 50) (.bool false) := ⟨_, rfl⟩
  have k33 : Ev.Stay [18, 19, 20, 21, 22, 23, 24, 25, 26, 27, 28, 29, 30, 31, 32, 33, 34, 35, 36, 37, 38, 39, 40, 41, 42, 43, 44, 45, 46, 47, 48, 49, 50, 51] a a33 := by rw [qa33]; exact k32.put (by decide) _
  have e33_0 := Ev.oth qa33 (by decide) e32_0
  have e33_1 := Ev.oth qa33 (by decide) e32_1
  have e33_2 := Ev.oth qa33 (by decide) e32_2
  have e33_3 := Ev.oth qa33 (by decide) e32_3
  have e33_11 := Ev.oth qa33 (by decide) e32_11
  have e33_47 := Ev.oth qa33 (by decide) e32_47
  have e33_48 := Ev.oth qa33 (by decide) e32_48
  have e33_49 := Ev.oth qa33 (by decide) e32_49
  have e33_50 := Ev.sam qa33 (by rw [k32.1, hsz]; decide)
  rw [← qa33]
  clear qa33 e32_0 e32_1 e32_2 e32_3 e32_11 e32_47 e32_48 e32_49
  clear e33_48
  clear e33_49
  refine pure_ (i := 33) (N := some 51) (v := .bool false) #[true, true, true, true, true, true, true, true, true, true, true, true, true, true, true, true, true, true, true, true, true, true, true, true, true, true, true, true, true, true, true, true, true, true] (Rg.of hops (Rg.atS (Rg.atS (Rg.atS (Rg.atS (Rg.atS (Rg.atS (Rg.atS (Rg.atS (Rg.atS (Rg.atS (Rg.atS (Rg.atS (Rg.atS (Rg.atS (Rg.atS (Rg.atS (Rg.atS (Rg.atS (Rg.atS (Rg.atS (Rg.atS (Rg.atS (Rg.atS (Rg.atS (Rg.atS (Rg.atS (Rg.atS (Rg.atS (Rg.atS (Rg.atS (Rg.atS (Rg.atS (Rg.atS Rg.at0)))))))))))))))))))))))))))))))))) rfl (by kernel_rfl) (fun c _ _ h => hP c _ _ _ (by rfl) h) (Or.inl ⟨Ev.wanted rfl, fun w_ => ?_⟩) rfl ?_
  · have ec0 : a33.eval (.const (.bool true)) = .bool true := rfl
    unfold execOp
    generalize a33.eval = ev at *
    go_simp
  obtain ⟨a34, qa34⟩ : ∃ z_, z_ = a33.put (some 51) (.bool false) := ⟨_, rfl⟩
  have k34 : Ev.Stay [18, 19, 20, 21, 22, 23, 24, 25, 26, 27, 28, 29, 30, 31, 32, 33, 34, 35, 36, 37, 38, 39, 40, 41, 42, 43, 44, 45, 46, 47, 48, 49, 50, 51] a a34 := by rw [qa34]; exact k33.put (by decide) _
  have e34_0 := Ev.oth qa34 (by decide) e33_0
  have e34_1 := Ev.oth qa34 (by decide) e33_1
  have e34_2 := Ev.oth qa34 (by decide) e33_2
  have e34_3 := Ev.oth qa34 (by decide) e33_3
  have e34_11 := Ev.oth qa34 (by decide) e33_11
  have e34_47 := Ev.oth qa34 (by decide) e33_47
  have e34_50 := Ev.oth qa34 (by decide) e33_50
  have e34_51 := Ev.sam qa34 (by rw [k33.1, hsz]; decide)
  rw [← qa34]
  clear qa34 e33_0 e33_1 e33_2 e33_3 e33_11 e33_47 e33_50
  clear e34_47
  clear e34_50
  refine done_ (by kernel_rfl) ?_
  exact hQ _ k34 e34_51
theorem or_pow {t : Nat} (ht : 1 ≤ t ∧ t ≤ 3) {x y : Int} (h0 : 0 ≤ x) (h1 : x < 100000) (h2 : 0 ≤ y) (h3 : y < 2 ^ t) : IntKind.i64.wrap (x * 2 ^ t) = x * 2 ^ t ∧ bits .or .i64 (x * 2 ^ t) y = x * 2 ^ t + y := by
  have e : t = 1 ∨ t = 2 ∨ t = 3 := by omega
  have key : ∀ i : Nat, i ≤ 3 → ∀ m : Int, m = 2 ^ i → y < m → 0 < m → m ≤ 8 → IntKind.i64.wrap (x * m) = x * m ∧ bits .or .i64 (x * m) y = x * m + y := by
    intro i hi m hm hy hm0 hm8
    have hb : 0 ≤ x * m := Int.mul_nonneg h0 (by omega)
    have hb2 : x * m ≤ 100000 * 8 := Int.mul_le_mul (by omega) hm8 (by omega) (by omega)
    refine ⟨wr (by omega) (by omega), ?_⟩
    exact bits_join .i64 62 (by decide) (fun n a b => wr (by omega) (by omega)) i (x * m) y hb (by rw [hm]; exact Int.mul_emod_left _ _) (by omega) h2 (by rw [← hm]; exact hy) (by omega)
  rcases e with rfl | rfl | rfl
  · exact key 1 (by decide) _ rfl h3 (by decide) (by decide)
  · exact key 2 (by decide) _ rfl h3 (by decide) (by decide)
  · exact key 3 (by decide) _ rfl h3 (by decide) (by decide)
/-- The squares of a side, in memory: not laid out yet, or laid out. -/
def Tl (W : World) (b t : Nat) : Prop := (1 ≤ t ∧ t ≤ 3) ∧ (W.heap[b]? = some (.cells (blk t 0 0 (.slice none 0 0)) 65 (0, 0)) ∨ ∃ g, W.heap[b]? = some (.cells (blk t 1 0 (.slice (some ⟨g, 0, none⟩) (2 ^ (t * t + 2 * t)) (2 ^ (t * t + 2 * t)))) 65 (0, 0)) ∧ W.heap[g]? = some (.cells (tabA (2 ^ (t * t + 2 * t)) (tabv t)) 5 (0, 0)))
theorem Tl.cell {W : World} {b t : Nat} (h : Tl W b t) : W.cell? ⟨b, 0, none⟩ = some (.int .i64 (t : Int)) := by
  rcases h.2 with h | ⟨g, h, _⟩
  · exact blk_t h
  · exact blk_t h
theorem Tl.lt {W : World} {b t : Nat} (h : Tl W b t) : b < W.heap.size := by
  rcases h.2 with h | ⟨g, h, _⟩
  · exact blk_lt h
  · exact blk_lt h
theorem Tl.typed {W : World} {b t : Nat} (h : Tl W b t) : ∃ c, W.heap[b]? = some (.cells c 65 (0, 0)) := by
  rcases h.2 with h | ⟨g, h, _⟩
  · exact ⟨_, h⟩
  · exact ⟨_, h⟩
/-- Whatever keeps all blocks but some that are no squares' and no bytes' keeps the squares. -/
theorem Tl.kept {W W' : World} {b t : Nat} {X : Nat → Prop} (h : Tl W b t) (hk : Kept W W' X) (hb : ¬ X b) (hg : ∀ g c, W.heap[g]? = some (.cells c 5 (0, 0)) → ¬ X g) : Tl W' b t := by
  refine ⟨h.1, ?_⟩
  rcases h.2 with h | ⟨g, h1, h2⟩
  · exact Or.inl ((hk.2 b (blk_lt h) hb).trans h)
  · exact Or.inr ⟨g, (hk.2 b (blk_lt h1) hb).trans h1, (hk.2 g (blk_lt h2) (hg g _ h2)).trans h2⟩
theorem Tl.below {W W' : World} {b t : Nat} (h : Tl W b t) (hb : Below W.heap.size W W') : Tl W' b t := h.kept (Kept.of_below hb (fun _ => False)) (fun h => h) (fun _ _ _ h => h)
/-- Other squares' look keeps these. -/
theorem Tl.other {W W' : World} {b t b' t' : Nat} (h : Tl W b t) (h' : Tl W b' t') (hk : Kept W W' (fun k => k = b')) (hne : b ≠ b') : Tl W' b t := by
  refine h.kept hk hne (fun g c hg e => ?_)
  obtain ⟨c', hc⟩ := h'.typed
  subst e
  rw [hg] at hc
  injection hc with hc
  injection hc with _ h2
  exact absurd h2 (by decide)
theorem tabv_at {t : Nat} (ht : 1 ≤ t ∧ t ≤ 3) {q p l : Nat} (hq : q < 2 ^ (t * t)) (hp : p < 2 ^ t) (hl : l < 2 ^ t) : (q * 2 ^ t + p) * 2 ^ t + l < 2 ^ (t * t + 2 * t) ∧ tabv t ((q * 2 ^ t + p) * 2 ^ t + l) = rig t (q : Int) (p : Int) (l : Int) t * 2 ^ t + bot t (q : Int) (p : Int) (l : Int) t := by
  have e : t = 1 ∨ t = 2 ∨ t = 3 := by omega
  rcases e with rfl | rfl | rfl
  · have hq : q < 2 := hq
    have hp : p < 2 := hp
    have hl : l < 2 := hl
    have e1 : ((q * 2 ^ 1 + p) * 2 ^ 1 + l) / 2 ^ (2 * 1) = q := by show ((q * 2 + p) * 2 + l) / 4 = q; omega
    have e2 : ((q * 2 ^ 1 + p) * 2 ^ 1 + l) / 2 ^ 1 % 2 ^ 1 = p := by show ((q * 2 + p) * 2 + l) / 2 % 2 = p; omega
    have e3 : ((q * 2 ^ 1 + p) * 2 ^ 1 + l) % 2 ^ 1 = l := by show ((q * 2 + p) * 2 + l) % 2 = l; omega
    refine ⟨by show (q * 2 + p) * 2 + l < 8; omega, ?_⟩
    unfold tabv
    rw [e1, e2, e3]
  · have hq : q < 16 := hq
    have hp : p < 4 := hp
    have hl : l < 4 := hl
    have e1 : ((q * 2 ^ 2 + p) * 2 ^ 2 + l) / 2 ^ (2 * 2) = q := by show ((q * 4 + p) * 4 + l) / 16 = q; omega
    have e2 : ((q * 2 ^ 2 + p) * 2 ^ 2 + l) / 2 ^ 2 % 2 ^ 2 = p := by show ((q * 4 + p) * 4 + l) / 4 % 4 = p; omega
    have e3 : ((q * 2 ^ 2 + p) * 2 ^ 2 + l) % 2 ^ 2 = l := by show ((q * 4 + p) * 4 + l) % 4 = l; omega
    refine ⟨by show (q * 4 + p) * 4 + l < 256; omega, ?_⟩
    unfold tabv
    rw [e1, e2, e3]
  · have hq : q < 512 := hq
    have hp : p < 8 := hp
    have hl : l < 8 := hl
    have e1 : ((q * 2 ^ 3 + p) * 2 ^ 3 + l) / 2 ^ (2 * 3) = q := by show ((q * 8 + p) * 8 + l) / 64 = q; omega
    have e2 : ((q * 2 ^ 3 + p) * 2 ^ 3 + l) / 2 ^ 3 % 2 ^ 3 = p := by show ((q * 8 + p) * 8 + l) / 8 % 8 = p; omega
    have e3 : ((q * 2 ^ 3 + p) * 2 ^ 3 + l) % 2 ^ 3 = l := by show ((q * 8 + p) * 8 + l) % 8 = l; omega
    refine ⟨by show (q * 8 + p) * 8 + l < 32768; omega, ?_⟩
    unfold tabv
    rw [e1, e2, e3]
/-- once.Do(x.work): behind it all squares are laid out. -/
theorem do_work {b t n0 : Nat} (w : World) (hT : Tl w b t) (hn0 : n0 ≤ b) :
    Calls Try.prog 27 #[.pointer (some ⟨b, 1, none⟩), .func (.func 28) #[.pointer (some ⟨b, 0, none⟩)] #[]] w fun e w' => e = .returned (.tuple #[]) ∧ ((∃ g, w'.heap[b]? = some (.cells (blk t 1 0 (.slice (some ⟨g, 0, none⟩) (2 ^ (t * t + 2 * t)) (2 ^ (t * t + 2 * t)))) 65 (0, 0)) ∧ w'.heap[g]? = some (.cells (tabA (2 ^ (t * t + 2 * t)) (tabv t)) 5 (0, 0))) ∧ Below n0 w w' ∧ Kept w w' (fun k => k = b)) := by
  obtain ⟨ht, h⟩ := hT
  rcases h with h | ⟨g, h1, h2⟩
  · have hlt := blk_lt h
    have h' : (w.setCell ⟨b, 2, none⟩ (.int .i32 1)).heap[b]? = some (.cells (blk t 0 1 (.slice none 0 0)) 65 (0, 0)) := by
      have := blk_set h 2 (.int .i32 1)
      rw [this]; rfl
    have hz : (w.setCell ⟨b, 2, none⟩ (.int .i32 1)).heap.size = w.heap.size := by simp [World.setCell]
    refine (do_first b (.pointer (some ⟨b, 0, none⟩)) w (fun w2 => ∃ g, w.heap.size ≤ g ∧ w2.heap[b]? = some (.cells (blk t 0 1 (.slice (some ⟨g, 0, none⟩) (2 ^ (t * t + 2 * t)) (2 ^ (t * t + 2 * t)))) 65 (0, 0)) ∧ w2.heap[g]? = some (.cells (tabA (2 ^ (t * t + 2 * t)) (tabv t)) 5 (0, 0)) ∧ Below n0 w w2 ∧ Kept w w2 (fun k => k = b)) ((blk_cell h 1).trans rfl) ((blk_cell h 2).trans rfl) (blk_frozen h 1) (blk_frozen h 2) ((work (n0 := n0) ht _ hn0 h').mono ?_)).mono ?_
    · rintro e w2 ⟨rfl, g, hg0, hb, hg, hbel, hkept⟩
      refine ⟨rfl, ⟨(blk_cell hb 1).trans rfl, blk_frozen hb 1, (blk_cell hb 2).trans rfl, blk_frozen hb 2⟩, g, by omega, hb, hg, ?_, ?_⟩
      · exact ((Below.refl n0 w).setCell (p := ⟨b, 2, none⟩) hn0 _).trans hbel
      · exact (Kept.setCell (S := fun k => k = b) (Kept.refl w _) (p := ⟨b, 2, none⟩) (Or.inl rfl) _).then_ hkept (fun k hk => Or.inl hk)
    · rintro e w' ⟨rfl, w2, ⟨g, hg0, hb, hg, hbel, hkept⟩, rfl⟩
      refine ⟨rfl, ⟨g, ?_, ?_⟩, ?_, ?_⟩
      · have a1 := blk_set (show w2.drew.heap[b]? = _ from hb) 1 (.int .u32 1)
        have a2 := blk_set a1 2 (.int .i32 0)
        rw [a2]; rfl
      · refine (Below.heap_setCell _ ⟨b, 2, none⟩ _ g (by show g ≠ b; omega)).trans ((Below.heap_setCell _ ⟨b, 1, none⟩ _ g (by show g ≠ b; omega)).trans hg)
      · exact ((hbel.trans (below_drew1 (Below.refl _ _))).setCell (p := ⟨b, 1, none⟩) hn0 _).setCell (p := ⟨b, 2, none⟩) hn0 _
      · exact Kept.setCell (S := fun k => k = b) (Kept.setCell (S := fun k => k = b) hkept.drew (p := ⟨b, 1, none⟩) (Or.inl rfl) _) (p := ⟨b, 2, none⟩) (Or.inl rfl) _
  · refine (do_done ⟨b, 1, none⟩ 1 (by decide) _ w ((blk_cell h1 1).trans rfl)).mono ?_
    rintro e w' ⟨rfl, rfl⟩
    exact ⟨rfl, ⟨g, h1, h2⟩, Below.refl _ _, Kept.refl _ _⟩
noncomputable def Rg.R11 (k : Nat) : Code := .region k (Rg.ops 23 k) false
noncomputable def Rg.D11 (k : Nat) : Code := .region k (Rg.ops 23 k) true
noncomputable def Rg.code11 : Code := .seq (Rg.R11 0) (.seq (Rg.R11 1) (.seq (.seq (Rg.D11 2) (.cond (.tmp 51) (.seq (Rg.R11 3) .ret) .skip)) (.seq (Rg.R11 4) (.seq (Rg.D11 5) (.seq (Rg.D11 6) .ret)))))
theorem Rg.look_res {a : Act} {W : World} {x y z : Int} (h8 : a.eval (.tmp 8) = .int .i64 x) (h9 : a.eval (.tmp 9) = .int .i64 y) (h10 : a.eval (.tmp 10) = .int .i64 z) : (results Try.f23 a.tmps).run Try.prog W = .ok (.tuple #[.int .i64 x, .int .i64 y, .int .i64 z]) W := by
  have e8 : a.tmps[8]?.getD undef = .int .i64 x := by simpa [Act.eval] using h8
  have e9 : a.tmps[9]?.getD undef = .int .i64 y := by simpa [Act.eval] using h9
  have e10 : a.tmps[10]?.getD undef = .int .i64 z := by simpa [Act.eval] using h10
  simp [results, Try.results23, go_sem, e8, e9, e10]
theorem look {b t n0 q p l : Nat} (w : World) (hT : Tl w b t) (hn0 : n0 ≤ b) (hq : q < 2 ^ (t * t)) (hp : p < 2 ^ t) (hl : l < 2 ^ t) :
    Calls Try.prog 23 #[.pointer (some ⟨b, 0, none⟩), .int .i64 (q : Int), .int .i64 (p : Int), .int .i64 (l : Int)] w fun e w' => e = .returned (.tuple #[.int .i64 (bot t (q : Int) (p : Int) (l : Int) t), .int .i64 (rig t (q : Int) (p : Int) (l : Int) t), .int .i64 0]) ∧ Tl w' b t ∧ Below n0 w w' ∧ Kept w w' (fun k => k = b) := by
  have ht := hT.1
  have hp8 : 2 ^ t ≤ 2 ^ 3 := Nat.pow_le_pow_right (by decide) ht.2
  have hq9 : 2 ^ (t * t) ≤ 2 ^ (3 * 3) := Nat.pow_le_pow_right (by decide) (Nat.mul_le_mul ht.2 ht.2)
  refine calls_of_wp Try.func23 rfl ?_
  show Rg.code11.wp _ _ _ _
  generalize hR : (fun (e : Ending) (w' : World) => e = .returned (.tuple #[.int .i64 (bot t (q : Int) (p : Int) (l : Int) t), .int .i64 (rig t (q : Int) (p : Int) (l : Int) t), .int .i64 0]) ∧ Tl w' b t ∧ Below n0 w w' ∧ Kept w w' (fun k => k = b)) = R
  have hP : Rg.PQ (bodyPost Try.prog Try.f23 R) := fun c a a' w hd h => ⟨hd.trans h.1, h.2⟩
  obtain ⟨a0, ha0⟩ : ∃ a0 : Act, a0 = { tmps := #[.pointer (some ⟨b, 0, none⟩), .int .i64 (q : Int), .int .i64 (p : Int), .int .i64 (l : Int)] ++ Array.replicate (Try.f23.ntmps - (#[.pointer (some ⟨b, 0, none⟩), .int .i64 (q : Int), .int .i64 (p : Int), .int .i64 (l : Int)] : Array Value).size) undef, defers := [] } := ⟨_, rfl⟩
  have hsz : a0.tmps.size = 90 := by rw [ha0]; simp [Try.ntmps23]
  have e0 : a0.eval (.tmp 0) = .pointer (some ⟨b, 0, none⟩) := by rw [ha0]; exact Ev.entry rfl
  have e1 : a0.eval (.tmp 1) = .int .i64 (q : Int) := by rw [ha0]; exact Ev.entry rfl
  have e2 : a0.eval (.tmp 2) = .int .i64 (p : Int) := by rw [ha0]; exact Ev.entry rfl
  have e3 : a0.eval (.tmp 3) = .int .i64 (l : Int) := by rw [ha0]; exact Ev.entry rfl
  have hd0 : a0.defers = [] := by rw [ha0]
  rw [← ha0]
  clear ha0
  have hB : ∃ d all, w.heap[b]? = some (.cells (blk t d 0 all) 65 (0, 0)) := by
    rcases hT.2 with h | ⟨g, h, _⟩
    · exact ⟨_, _, h⟩
    · exact ⟨_, _, h⟩
  obtain ⟨d, all, hb⟩ := hB
  refine wp_seq (Rg.k0 hsz ?_)
  intro a1 k1
  refine wp_seq (Rg.k1 (k1.1.trans hsz) ((k1.2.2 0 (by decide)).trans e0) ht hb ?_)
  intro a2 k2 e11
  have st2 : Ev.Stay [8, 9, 10, 11, 13, 14, 15, 16, 17] a0 a2 := k1.trans k2 (by decide) (by decide)
  have z2 := st2.1.trans hsz
  refine wp_seq (wp_seq (Rg.k2 (q := (q : Int)) (p := (p : Int)) (l := (l : Int)) z2 (fun c a a' w hd h => hP c a a' w hd h) ((st2.2.2 0 (by decide)).trans e0) ((st2.2.2 1 (by decide)).trans e1) ((st2.2.2 2 (by decide)).trans e2) ((st2.2.2 3 (by decide)).trans e3) e11 ht (show w.drew.heap[b]? = _ from hb) (by omega) (by omega) (by omega) (by omega) (by omega) (by omega) ?_))
  intro a3 k3 e51
  refine wp_cond_false e51 (wp_skip ?_)
  show Code.wp _ _ _ _ _
  have st3 : Ev.Stay (8 :: 9 :: 10 :: 11 :: List.range' 13 39) a0 a3 := st2.trans k3 (by decide) (by decide)
  have hTd : Tl w.drew b t := hT
  refine wp_seq (Rg.k4 (st3.1.trans hsz) ((st3.2.2 0 (by decide)).trans e0) (do_work (n0 := n0) w.drew hTd hn0) ?_)
  rintro a4 W4 k4 ⟨⟨g, hb4, hg4⟩, B4, K4⟩
  show Code.wp _ _ _ _ _
  have st4 : Ev.Stay (8 :: 9 :: 10 :: 11 :: List.range' 13 45) a0 a4 := st3.trans k4 (by decide) (by decide)
  have tv := tabv_at ht hq hp hl
  have o1 := or_pow (x := (q : Int)) (y := (p : Int)) ht (by omega) (by omega) (by omega) (by exact_mod_cast hp)
  have hx2 : (q * 2 ^ t + p : Nat) < 100000 := by
    have : q * 2 ^ t ≤ 512 * 8 := Nat.mul_le_mul (by omega) hp8
    omega
  have c1 : ((q : Int) * 2 ^ t + (p : Int)) = ((q * 2 ^ t + p : Nat) : Int) := by simp
  have o2 := or_pow (x := (q : Int) * 2 ^ t + (p : Int)) (y := (l : Int)) ht (by rw [c1]; omega) (by rw [c1]; omega) (by omega) (by exact_mod_cast hl)
  have hpb : (0 : Int) ≤ (p : Int) ∧ (p : Int) < 1024 := by omega
  have hlb : (0 : Int) ≤ (l : Int) ∧ (l : Int) < 1024 := by omega
  have bf := byte_facts ht (rig_bd (t := t) (q := (q : Int)) hpb hlb) (bot_bd (t := t) (q := (q : Int)) hpb hlb)
  refine wp_seq (Rg.k5 (g := g) (N := 2 ^ (t * t + 2 * t)) (x := (q * 2 ^ t + p) * 2 ^ t + l) (q := (q : Int)) (p := (p : Int)) (l := (l : Int)) (st4.1.trans hsz) (fun c a a' w hd h => hP c a a' w hd h) ((st4.2.2 0 (by decide)).trans e0) ((st4.2.2 1 (by decide)).trans e1) ((st4.2.2 2 (by decide)).trans e2) ((st4.2.2 3 (by decide)).trans e3) ht (show W4.drew.heap[b]? = _ from hb4) (tab_cell (show W4.drew.heap[g]? = _ from hg4) tv.1) tv.1 o1.1 o1.2 o2.1 (by rw [o2.2]; simp) (by rw [tv.2]; exact wr (by omega) (by omega)) ?_)
  intro a5 k5 e12
  show Code.wp _ _ _ _ _
  have st5 : Ev.Stay (8 :: 9 :: 10 :: 11 :: List.range' 12 68) a0 a5 := st4.trans k5 (by decide) (by decide)
  rw [tv.2] at e12
  refine wp_seq (Rg.k6 (st5.1.trans hsz) (fun c a a' w hd h => hP c a a' w hd h) ((st5.2.2 0 (by decide)).trans e0) ((k5.2.2 11 (by decide)).trans ((k4.2.2 11 (by decide)).trans ((k3.2.2 11 (by decide)).trans e11))) e12 ht (show W4.drew.drew.heap[b]? = _ from hb4) (by have := bf.2.2.2.1; rw [show (((2 ^ t : Nat) : Int) - 1) = 2 ^ t - 1 by simp]; exact this) bf.2.2.2.1 bf.2.2.2.2.1 ?_)
  intro a6 k6 e8 e9 e10
  refine wp_ret ⟨k6.2.1.trans (st5.2.1.trans hd0), _, Rg.look_res e8 e9 e10, ?_⟩
  rw [← hR]
  refine ⟨rfl, ⟨ht, Or.inr ⟨g, hb4, hg4⟩⟩, ?_, ?_⟩
  · exact (below_drew1 (Below.refl _ _)).trans (B4.trans (below_drew1 (below_drew1 (Below.refl _ _))))
  · exact ((Kept.refl w _).drew.then_ K4 (fun k hk => Or.inl hk)).drew.drew
theorem Tl.new {t : Nat} (ht : 1 ≤ t ∧ t ≤ 3) (w : World) : Tl (w.alloc (.cells (blk t 0 0 (.slice none 0 0)) 65)) w.heap.size t := ⟨ht, Or.inl (blk_new w _)⟩
end Go.Proofs.Ytpdjdffimighkaa.Tile
