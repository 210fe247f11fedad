/-
  No cell of these rows narrows 'for every input' (looked for: loops, veiled, ifaces, maps, wideKeys, modest, calm, conditions, laid).
  DERIVED. THE GIVEN ROWS OF THIS SEAT. 5 by the template 'for every input the law returns true; each argument reads behind the call as it read before'; 0 by the template 'total and deterministic' (their statements: YtpedlelgeeignaaTotals.lean).
  GIVEN WITH THE SEED: the statements are not yours to turn. If you find one false, say at which input.
  Laid BY PROGRAM, IN A SANDBOX (cutbox-rows.mjs): the forced cells as the released guide's own fill.sh prints them over the translation b3130a2858d01a96… (all of the seat's roots in one cut). By AI agents, Wed Nov 11 2026. No macro, syntax, notation, axiom, sorry.
-/
import Derived.Test.YtpedlelgeeignaaChecked
import GoSem.Claim
import GoSem.ClaimJoined
import GoSem.ClaimMapViews
import Derived.JoinedTies
import Derived.KernelRfl
namespace Go.Proofs.Ytpedlelgeeignaa
/- THE CELL 'sum', in the pinned program and in every row, IS THE sha256 OF THE DUMP (.gsa) THAT YtpedlelgeeignaaProg.lean LOADS. Nothing in Lean hashes anything: it is a label: what it is worth is what the hold of that sum in a sandbox is worth. -/
noncomputable def Try.pinned : Pinned := { name := "ytpedlelgeeignaa", sum := "b3130a2858d01a96f2223d9464be10c7230437aa6950859c80e016401c3e83e9", checked := Try.checked }
namespace Rows
def none {H : Type} : Left H := { results := [], args := [] }

/-- 'tattinglaw11.HalveKnown': WHATEVER THE INPUT: true; the input reads as it did. -/
def halveKnownSpec : ChangeSpec := { name := "halveKnown", fn := fun _ => fun
  | [] => { results := [.lit (.bool true)], args := [] }
  | _ => none }
def halveKnownRow : OpenClaim := { program := "ytpedlelgeeignaa", sum := "b3130a2858d01a96f2223d9464be10c7230437aa6950859c80e016401c3e83e9", func := "tatting/tattinglaw11.HalveKnown", spec := "halveKnown", apart := false }
def HalveKnownSaid : Prop := halveKnownRow.holds Try.pinned (OpenSpec.ofChange halveKnownSpec)

/-- ITS FALSE NEIGHBOUR: 'it returns false'. Refute it at one input. -/
def halveKnownWrong : ChangeSpec := { name := "halveKnown", fn := fun _ => fun
  | [] => { results := [.lit (.bool false)], args := [] }
  | _ => none }
def HalveKnownWrongFalsely : Prop := halveKnownRow.holds Try.pinned (OpenSpec.ofChange halveKnownWrong)

/-- 'tattinglaw11.HalveRuns': WHATEVER THE INPUT: true; the input reads as it did. -/
def halveRunsSpec : ChangeSpec := { name := "halveRuns", fn := fun _ => fun
  | [d1, d2] => { results := [.lit (.bool true)], args := [d1, d2] }
  | _ => none }
def halveRunsRow : OpenClaim := { program := "ytpedlelgeeignaa", sum := "b3130a2858d01a96f2223d9464be10c7230437aa6950859c80e016401c3e83e9", func := "tatting/tattinglaw11.HalveRuns", spec := "halveRuns", recurses := true, apart := false }
def HalveRunsSaid : Prop := halveRunsRow.holds Try.pinned (OpenSpec.ofChange halveRunsSpec)

/-- ITS FALSE NEIGHBOUR: 'it returns false'. Refute it at one input. -/
def halveRunsWrong : ChangeSpec := { name := "halveRuns", fn := fun _ => fun
  | [d1, d2] => { results := [.lit (.bool false)], args := [d1, d2] }
  | _ => none }
def HalveRunsWrongFalsely : Prop := halveRunsRow.holds Try.pinned (OpenSpec.ofChange halveRunsWrong)

/-- 'tattinglaw11.HalveGood': WHATEVER THE INPUT: true; the input reads as it did. -/
def halveGoodSpec : ChangeSpec := { name := "halveGood", fn := fun _ => fun
  | [d1, d2] => { results := [.lit (.bool true)], args := [d1, d2] }
  | _ => none }
def halveGoodRow : OpenClaim := { program := "ytpedlelgeeignaa", sum := "b3130a2858d01a96f2223d9464be10c7230437aa6950859c80e016401c3e83e9", func := "tatting/tattinglaw11.HalveGood", spec := "halveGood", apart := false }
def HalveGoodSaid : Prop := halveGoodRow.holds Try.pinned (OpenSpec.ofChange halveGoodSpec)

/-- ITS FALSE NEIGHBOUR: 'it returns false'. Refute it at one input. -/
def halveGoodWrong : ChangeSpec := { name := "halveGood", fn := fun _ => fun
  | [d1, d2] => { results := [.lit (.bool false)], args := [d1, d2] }
  | _ => none }
def HalveGoodWrongFalsely : Prop := halveGoodRow.holds Try.pinned (OpenSpec.ofChange halveGoodWrong)

/-- 'tattinglaw11.HalveSteps': WHATEVER THE INPUT: true; the input reads as it did. -/
def halveStepsSpec : ChangeSpec := { name := "halveSteps", fn := fun _ => fun
  | [d1, d2] => { results := [.lit (.bool true)], args := [d1, d2] }
  | _ => none }
def halveStepsRow : OpenClaim := { program := "ytpedlelgeeignaa", sum := "b3130a2858d01a96f2223d9464be10c7230437aa6950859c80e016401c3e83e9", func := "tatting/tattinglaw11.HalveSteps", spec := "halveSteps", apart := false }
def HalveStepsSaid : Prop := halveStepsRow.holds Try.pinned (OpenSpec.ofChange halveStepsSpec)

/-- ITS FALSE NEIGHBOUR: 'it returns false'. Refute it at one input. -/
def halveStepsWrong : ChangeSpec := { name := "halveSteps", fn := fun _ => fun
  | [d1, d2] => { results := [.lit (.bool false)], args := [d1, d2] }
  | _ => none }
def HalveStepsWrongFalsely : Prop := halveStepsRow.holds Try.pinned (OpenSpec.ofChange halveStepsWrong)

/-- 'tattinglaw11.HalveMost': WHATEVER THE INPUT: true; the input reads as it did. -/
def halveMostSpec : ChangeSpec := { name := "halveMost", fn := fun _ => fun
  | [d1, d2] => { results := [.lit (.bool true)], args := [d1, d2] }
  | _ => none }
def halveMostRow : OpenClaim := { program := "ytpedlelgeeignaa", sum := "b3130a2858d01a96f2223d9464be10c7230437aa6950859c80e016401c3e83e9", func := "tatting/tattinglaw11.HalveMost", spec := "halveMost", apart := false }
def HalveMostSaid : Prop := halveMostRow.holds Try.pinned (OpenSpec.ofChange halveMostSpec)

/-- ITS FALSE NEIGHBOUR: 'it returns false'. Refute it at one input. -/
def halveMostWrong : ChangeSpec := { name := "halveMost", fn := fun _ => fun
  | [d1, d2] => { results := [.lit (.bool false)], args := [d1, d2] }
  | _ => none }
def HalveMostWrongFalsely : Prop := halveMostRow.holds Try.pinned (OpenSpec.ofChange halveMostWrong)

/- THE SECOND FORM. 'bulk': how many values and letters a reading holds, each counted each time it is reached (what is shared counts as often as it is met; a slice's spare places count too). A statement '..UptoSaid' is the law's where the arguments, and the package variables that the reading takes, are together of bulk at most 1048576: NARROWER than '..Said'. Prove '..Said' where nothing that the law and all that it calls make is longer than what came in: it says more and counts as full. Else prove '..UptoSaid'. A law counts once. -/
mutual
def uptoBulk {H : Type} : DataW H → Nat
  | .lit (.string bytes) => bytes.length + 1
  | .lit _ => 1
  | .nil => 1
  | .ptr d => uptoBulk d + 1
  | .slice elems spare => uptoBulkAll elems + uptoBulkAll spare + 1
  | .agg parts => uptoBulkAll parts + 1
  | .iface _ d => uptoBulk d + 1
  | .map entries => uptoBulkEntries entries + 1
  | .held _ => 1
def uptoBulkAll {H : Type} : List (DataW H) → Nat
  | [] => 0
  | d :: r => uptoBulk d + uptoBulkAll r
def uptoBulkEntries {H : Type} : List (Lit × DataW H) → Nat
  | [] => 0
  | x :: r => uptoBulkEntry x + uptoBulkEntries r
def uptoBulkEntry {H : Type} : Lit × DataW H → Nat
  | (.string bytes, d) => bytes.length + uptoBulk d + 1
  | (_, d) => uptoBulk d + 1
 end
def uptoSmall : (H : Type) → List (DataW H) → Bool := fun _ ds => decide (uptoBulkAll ds ≤ 1048576)
def OpenSpec.upto (s : _root_.Go.ChangeSpec) : _root_.Go.OpenSpec := { _root_.Go.OpenSpec.ofChange s with cond := some uptoSmall }

/-- 'tattinglaw11.HalveKnown', WHERE WHAT IT READS IS OF BULK AT MOST 1048576: true; the input reads as it did. -/
def halveKnownUptoRow : OpenClaim := { program := "ytpedlelgeeignaa", sum := "b3130a2858d01a96f2223d9464be10c7230437aa6950859c80e016401c3e83e9", func := "tatting/tattinglaw11.HalveKnown", spec := "halveKnown", apart := false, narrowed := true }
def HalveKnownUptoSaid : Prop := halveKnownUptoRow.holds Try.pinned (OpenSpec.upto halveKnownSpec)

/-- 'tattinglaw11.HalveRuns', WHERE WHAT IT READS IS OF BULK AT MOST 1048576: true; the input reads as it did. -/
def halveRunsUptoRow : OpenClaim := { program := "ytpedlelgeeignaa", sum := "b3130a2858d01a96f2223d9464be10c7230437aa6950859c80e016401c3e83e9", func := "tatting/tattinglaw11.HalveRuns", spec := "halveRuns", recurses := true, apart := false, narrowed := true }
def HalveRunsUptoSaid : Prop := halveRunsUptoRow.holds Try.pinned (OpenSpec.upto halveRunsSpec)

/-- 'tattinglaw11.HalveGood', WHERE WHAT IT READS IS OF BULK AT MOST 1048576: true; the input reads as it did. -/
def halveGoodUptoRow : OpenClaim := { program := "ytpedlelgeeignaa", sum := "b3130a2858d01a96f2223d9464be10c7230437aa6950859c80e016401c3e83e9", func := "tatting/tattinglaw11.HalveGood", spec := "halveGood", apart := false, narrowed := true }
def HalveGoodUptoSaid : Prop := halveGoodUptoRow.holds Try.pinned (OpenSpec.upto halveGoodSpec)

/-- 'tattinglaw11.HalveSteps', WHERE WHAT IT READS IS OF BULK AT MOST 1048576: true; the input reads as it did. -/
def halveStepsUptoRow : OpenClaim := { program := "ytpedlelgeeignaa", sum := "b3130a2858d01a96f2223d9464be10c7230437aa6950859c80e016401c3e83e9", func := "tatting/tattinglaw11.HalveSteps", spec := "halveSteps", apart := false, narrowed := true }
def HalveStepsUptoSaid : Prop := halveStepsUptoRow.holds Try.pinned (OpenSpec.upto halveStepsSpec)

/-- 'tattinglaw11.HalveMost', WHERE WHAT IT READS IS OF BULK AT MOST 1048576: true; the input reads as it did. -/
def halveMostUptoRow : OpenClaim := { program := "ytpedlelgeeignaa", sum := "b3130a2858d01a96f2223d9464be10c7230437aa6950859c80e016401c3e83e9", func := "tatting/tattinglaw11.HalveMost", spec := "halveMost", apart := false, narrowed := true }
def HalveMostUptoSaid : Prop := halveMostUptoRow.holds Try.pinned (OpenSpec.upto halveMostSpec)

end Rows
end Go.Proofs.Ytpedlelgeeignaa
