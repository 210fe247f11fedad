/-
  No cell of these rows narrows 'for every input' (looked for: loops, veiled, ifaces, maps, wideKeys, modest, calm, conditions, laid).
  DERIVED. THE GIVEN ROWS OF THIS SEAT. 5 by the template 'for every input the law returns true; each argument reads behind the call as it read before'; 0 by the template 'total and deterministic' (their statements: YtmponfnelacclaaTotals.lean).
  GIVEN WITH THE SEED: the statements are not yours to turn. If you find one false, say at which input.
  Laid BY PROGRAM, IN A SANDBOX (cutbox-rows.mjs): the forced cells as the released guide's own fill.sh prints them over the translation 0030e29a3b700f78… (all of the seat's roots in one cut). By AI agents, Wed Nov 11 2026. No macro, syntax, notation, axiom, sorry.
-/
import Derived.Test.YtmponfnelacclaaChecked
import GoSem.Claim
import GoSem.ClaimJoined
import GoSem.ClaimMapViews
import Derived.JoinedTies
import Derived.KernelRfl
namespace Go.Proofs.Ytmponfnelacclaa
/- THE CELL 'sum', in the pinned program and in every row, IS THE sha256 OF THE DUMP (.gsa) THAT YtmponfnelacclaaProg.lean LOADS. Nothing in Lean hashes anything: it is a label: what it is worth is what the hold of that sum in a sandbox is worth. -/
noncomputable def Try.pinned : Pinned := { name := "ytmponfnelacclaa", sum := "0030e29a3b700f7802ef88b49ebf006b7fad93fa67e9cdb1c77157a8cab790c4", checked := Try.checked }
namespace Rows
def none {H : Type} : Left H := { results := [], args := [] }

/-- 'tattinglaw10.RowsKnown': WHATEVER THE INPUT: true; the input reads as it did. -/
def rowsKnownSpec : ChangeSpec := { name := "rowsKnown", fn := fun _ => fun
  | [] => { results := [.lit (.bool true)], args := [] }
  | _ => none }
def rowsKnownRow : OpenClaim := { program := "ytmponfnelacclaa", sum := "0030e29a3b700f7802ef88b49ebf006b7fad93fa67e9cdb1c77157a8cab790c4", func := "tatting/tattinglaw10.RowsKnown", spec := "rowsKnown", apart := false }
def RowsKnownSaid : Prop := rowsKnownRow.holds Try.pinned (OpenSpec.ofChange rowsKnownSpec)

/-- ITS FALSE NEIGHBOUR: 'it returns false'. Refute it at one input. -/
def rowsKnownWrong : ChangeSpec := { name := "rowsKnown", fn := fun _ => fun
  | [] => { results := [.lit (.bool false)], args := [] }
  | _ => none }
def RowsKnownWrongFalsely : Prop := rowsKnownRow.holds Try.pinned (OpenSpec.ofChange rowsKnownWrong)

/-- 'tattinglaw10.RowsNext': WHATEVER THE INPUT: true; the input reads as it did. -/
def rowsNextSpec : ChangeSpec := { name := "rowsNext", fn := fun _ => fun
  | [d1, d2, d3] => { results := [.lit (.bool true)], args := [d1, d2, d3] }
  | _ => none }
def rowsNextRow : OpenClaim := { program := "ytmponfnelacclaa", sum := "0030e29a3b700f7802ef88b49ebf006b7fad93fa67e9cdb1c77157a8cab790c4", func := "tatting/tattinglaw10.RowsNext", spec := "rowsNext", apart := false }
def RowsNextSaid : Prop := rowsNextRow.holds Try.pinned (OpenSpec.ofChange rowsNextSpec)

/-- ITS FALSE NEIGHBOUR: 'it returns false'. Refute it at one input. -/
def rowsNextWrong : ChangeSpec := { name := "rowsNext", fn := fun _ => fun
  | [d1, d2, d3] => { results := [.lit (.bool false)], args := [d1, d2, d3] }
  | _ => none }
def RowsNextWrongFalsely : Prop := rowsNextRow.holds Try.pinned (OpenSpec.ofChange rowsNextWrong)

/-- 'tattinglaw10.RowsEnds': WHATEVER THE INPUT: true; the input reads as it did. -/
def rowsEndsSpec : ChangeSpec := { name := "rowsEnds", fn := fun _ => fun
  | [d1, d2] => { results := [.lit (.bool true)], args := [d1, d2] }
  | _ => none }
def rowsEndsRow : OpenClaim := { program := "ytmponfnelacclaa", sum := "0030e29a3b700f7802ef88b49ebf006b7fad93fa67e9cdb1c77157a8cab790c4", func := "tatting/tattinglaw10.RowsEnds", spec := "rowsEnds", apart := false }
def RowsEndsSaid : Prop := rowsEndsRow.holds Try.pinned (OpenSpec.ofChange rowsEndsSpec)

/-- ITS FALSE NEIGHBOUR: 'it returns false'. Refute it at one input. -/
def rowsEndsWrong : ChangeSpec := { name := "rowsEnds", fn := fun _ => fun
  | [d1, d2] => { results := [.lit (.bool false)], args := [d1, d2] }
  | _ => none }
def RowsEndsWrongFalsely : Prop := rowsEndsRow.holds Try.pinned (OpenSpec.ofChange rowsEndsWrong)

/-- 'tattinglaw10.RowsGo': WHATEVER THE INPUT: true; the input reads as it did. -/
def rowsGoSpec : ChangeSpec := { name := "rowsGo", fn := fun _ => fun
  | [d1, d2] => { results := [.lit (.bool true)], args := [d1, d2] }
  | _ => none }
def rowsGoRow : OpenClaim := { program := "ytmponfnelacclaa", sum := "0030e29a3b700f7802ef88b49ebf006b7fad93fa67e9cdb1c77157a8cab790c4", func := "tatting/tattinglaw10.RowsGo", spec := "rowsGo", apart := false }
def RowsGoSaid : Prop := rowsGoRow.holds Try.pinned (OpenSpec.ofChange rowsGoSpec)

/-- ITS FALSE NEIGHBOUR: 'it returns false'. Refute it at one input. -/
def rowsGoWrong : ChangeSpec := { name := "rowsGo", fn := fun _ => fun
  | [d1, d2] => { results := [.lit (.bool false)], args := [d1, d2] }
  | _ => none }
def RowsGoWrongFalsely : Prop := rowsGoRow.holds Try.pinned (OpenSpec.ofChange rowsGoWrong)

/-- 'tattinglaw10.RowsMeet': WHATEVER THE INPUT: true; the input reads as it did. -/
def rowsMeetSpec : ChangeSpec := { name := "rowsMeet", fn := fun _ => fun
  | [d1, d2, d3] => { results := [.lit (.bool true)], args := [d1, d2, d3] }
  | _ => none }
def rowsMeetRow : OpenClaim := { program := "ytmponfnelacclaa", sum := "0030e29a3b700f7802ef88b49ebf006b7fad93fa67e9cdb1c77157a8cab790c4", func := "tatting/tattinglaw10.RowsMeet", spec := "rowsMeet", apart := false }
def RowsMeetSaid : Prop := rowsMeetRow.holds Try.pinned (OpenSpec.ofChange rowsMeetSpec)

/-- ITS FALSE NEIGHBOUR: 'it returns false'. Refute it at one input. -/
def rowsMeetWrong : ChangeSpec := { name := "rowsMeet", fn := fun _ => fun
  | [d1, d2, d3] => { results := [.lit (.bool false)], args := [d1, d2, d3] }
  | _ => none }
def RowsMeetWrongFalsely : Prop := rowsMeetRow.holds Try.pinned (OpenSpec.ofChange rowsMeetWrong)

/- THE SECOND FORM. 'bulk': how many values and letters a reading holds, each counted each time it is reached (what is shared counts as often as it is met; a slice's spare places count too). A statement '..UptoSaid' is the law's where the arguments, and the package variables that the reading takes, are together of bulk at most 1048576: NARROWER than '..Said'. Prove '..Said' where nothing that the law and all that it calls make is longer than what came in: it says more and counts as full. Else prove '..UptoSaid'. A law counts once. -/
mutual
def uptoBulk {H : Type} : DataW H → Nat
  | .lit (.string bytes) => bytes.length + 1
  | .lit _ => 1
  | .nil => 1
  | .ptr d => uptoBulk d + 1
  | .slice elems spare => uptoBulkAll elems + uptoBulkAll spare + 1
  | .agg parts => uptoBulkAll parts + 1
  | .iface _ d => uptoBulk d + 1
  | .map entries => uptoBulkEntries entries + 1
  | .held _ => 1
def uptoBulkAll {H : Type} : List (DataW H) → Nat
  | [] => 0
  | d :: r => uptoBulk d + uptoBulkAll r
def uptoBulkEntries {H : Type} : List (Lit × DataW H) → Nat
  | [] => 0
  | x :: r => uptoBulkEntry x + uptoBulkEntries r
def uptoBulkEntry {H : Type} : Lit × DataW H → Nat
  | (.string bytes, d) => bytes.length + uptoBulk d + 1
  | (_, d) => uptoBulk d + 1
 end
def uptoSmall : (H : Type) → List (DataW H) → Bool := fun _ ds => decide (uptoBulkAll ds ≤ 1048576)
def OpenSpec.upto (s : _root_.Go.ChangeSpec) : _root_.Go.OpenSpec := { _root_.Go.OpenSpec.ofChange s with cond := some uptoSmall }

/-- 'tattinglaw10.RowsKnown', WHERE WHAT IT READS IS OF BULK AT MOST 1048576: true; the input reads as it did. -/
def rowsKnownUptoRow : OpenClaim := { program := "ytmponfnelacclaa", sum := "0030e29a3b700f7802ef88b49ebf006b7fad93fa67e9cdb1c77157a8cab790c4", func := "tatting/tattinglaw10.RowsKnown", spec := "rowsKnown", apart := false, narrowed := true }
def RowsKnownUptoSaid : Prop := rowsKnownUptoRow.holds Try.pinned (OpenSpec.upto rowsKnownSpec)

/-- 'tattinglaw10.RowsNext', WHERE WHAT IT READS IS OF BULK AT MOST 1048576: true; the input reads as it did. -/
def rowsNextUptoRow : OpenClaim := { program := "ytmponfnelacclaa", sum := "0030e29a3b700f7802ef88b49ebf006b7fad93fa67e9cdb1c77157a8cab790c4", func := "tatting/tattinglaw10.RowsNext", spec := "rowsNext", apart := false, narrowed := true }
def RowsNextUptoSaid : Prop := rowsNextUptoRow.holds Try.pinned (OpenSpec.upto rowsNextSpec)

/-- 'tattinglaw10.RowsEnds', WHERE WHAT IT READS IS OF BULK AT MOST 1048576: true; the input reads as it did. -/
def rowsEndsUptoRow : OpenClaim := { program := "ytmponfnelacclaa", sum := "0030e29a3b700f7802ef88b49ebf006b7fad93fa67e9cdb1c77157a8cab790c4", func := "tatting/tattinglaw10.RowsEnds", spec := "rowsEnds", apart := false, narrowed := true }
def RowsEndsUptoSaid : Prop := rowsEndsUptoRow.holds Try.pinned (OpenSpec.upto rowsEndsSpec)

/-- 'tattinglaw10.RowsGo', WHERE WHAT IT READS IS OF BULK AT MOST 1048576: true; the input reads as it did. -/
def rowsGoUptoRow : OpenClaim := { program := "ytmponfnelacclaa", sum := "0030e29a3b700f7802ef88b49ebf006b7fad93fa67e9cdb1c77157a8cab790c4", func := "tatting/tattinglaw10.RowsGo", spec := "rowsGo", apart := false, narrowed := true }
def RowsGoUptoSaid : Prop := rowsGoUptoRow.holds Try.pinned (OpenSpec.upto rowsGoSpec)

/-- 'tattinglaw10.RowsMeet', WHERE WHAT IT READS IS OF BULK AT MOST 1048576: true; the input reads as it did. -/
def rowsMeetUptoRow : OpenClaim := { program := "ytmponfnelacclaa", sum := "0030e29a3b700f7802ef88b49ebf006b7fad93fa67e9cdb1c77157a8cab790c4", func := "tatting/tattinglaw10.RowsMeet", spec := "rowsMeet", apart := false, narrowed := true }
def RowsMeetUptoSaid : Prop := rowsMeetUptoRow.holds Try.pinned (OpenSpec.upto rowsMeetSpec)

end Rows
end Go.Proofs.Ytmponfnelacclaa
