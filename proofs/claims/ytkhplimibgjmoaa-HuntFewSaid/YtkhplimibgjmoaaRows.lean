/-
  No cell of these rows narrows 'for every input' (looked for: loops, veiled, ifaces, maps, wideKeys, modest, calm, conditions, laid).
  DERIVED. THE GIVEN ROWS OF THIS SEAT. 5 by the template 'for every input the law returns true; each argument reads behind the call as it read before'; 0 by the template 'total and deterministic' (their statements: YtkhplimibgjmoaaTotals.lean).
  GIVEN WITH THE SEED: the statements are not yours to turn. If you find one false, say at which input.
  Laid BY PROGRAM, IN A SANDBOX (cutbox-rows.mjs): the forced cells as the released guide's own fill.sh prints them over the translation 764f4cd197d292c4… (all of the seat's roots in one cut). By AI agents, Wed Nov 11 2026. No macro, syntax, notation, axiom, sorry.
-/
import Derived.Test.YtkhplimibgjmoaaChecked
import GoSem.Claim
import GoSem.ClaimJoined
import GoSem.ClaimMapViews
import Derived.JoinedTies
import Derived.KernelRfl
namespace Go.Proofs.Ytkhplimibgjmoaa
/- THE CELL 'sum', in the pinned program and in every row, IS THE sha256 OF THE DUMP (.gsa) THAT YtkhplimibgjmoaaProg.lean LOADS. Nothing in Lean hashes anything: it is a label: what it is worth is what the hold of that sum in a sandbox is worth. -/
noncomputable def Try.pinned : Pinned := { name := "ytkhplimibgjmoaa", sum := "764f4cd197d292c4dc76bf9ed81c60d4779a91b27e5d5e365ab8b0ce133dadd9", checked := Try.checked }
namespace Rows
def none {H : Type} : Left H := { results := [], args := [] }

/-- 'tattinglaw16.HuntKnown': WHATEVER THE INPUT: true; the input reads as it did. -/
def huntKnownSpec : ChangeSpec := { name := "huntKnown", fn := fun _ => fun
  | [] => { results := [.lit (.bool true)], args := [] }
  | _ => none }
def huntKnownRow : OpenClaim := { program := "ytkhplimibgjmoaa", sum := "764f4cd197d292c4dc76bf9ed81c60d4779a91b27e5d5e365ab8b0ce133dadd9", func := "tatting/tattinglaw16.HuntKnown", spec := "huntKnown", unfollowed := true, recurses := true, apart := false }
def HuntKnownSaid : Prop := huntKnownRow.holds Try.pinned (OpenSpec.ofChange huntKnownSpec)

/-- ITS FALSE NEIGHBOUR: 'it returns false'. Refute it at one input. -/
def huntKnownWrong : ChangeSpec := { name := "huntKnown", fn := fun _ => fun
  | [] => { results := [.lit (.bool false)], args := [] }
  | _ => none }
def HuntKnownWrongFalsely : Prop := huntKnownRow.holds Try.pinned (OpenSpec.ofChange huntKnownWrong)

/-- 'tattinglaw16.HuntRuns': WHATEVER THE INPUT: true; the input reads as it did. -/
def huntRunsSpec : ChangeSpec := { name := "huntRuns", fn := fun _ => fun
  | [d1, d2] => { results := [.lit (.bool true)], args := [d1, d2] }
  | _ => none }
def huntRunsRow : OpenClaim := { program := "ytkhplimibgjmoaa", sum := "764f4cd197d292c4dc76bf9ed81c60d4779a91b27e5d5e365ab8b0ce133dadd9", func := "tatting/tattinglaw16.HuntRuns", spec := "huntRuns", unfollowed := true, recurses := true, apart := false }
def HuntRunsSaid : Prop := huntRunsRow.holds Try.pinned (OpenSpec.ofChange huntRunsSpec)

/-- ITS FALSE NEIGHBOUR: 'it returns false'. Refute it at one input. -/
def huntRunsWrong : ChangeSpec := { name := "huntRuns", fn := fun _ => fun
  | [d1, d2] => { results := [.lit (.bool false)], args := [d1, d2] }
  | _ => none }
def HuntRunsWrongFalsely : Prop := huntRunsRow.holds Try.pinned (OpenSpec.ofChange huntRunsWrong)

/-- 'tattinglaw16.HuntAny': WHATEVER THE INPUT: true; the input reads as it did. -/
def huntAnySpec : ChangeSpec := { name := "huntAny", fn := fun _ => fun
  | [d1, d2] => { results := [.lit (.bool true)], args := [d1, d2] }
  | _ => none }
def huntAnyRow : OpenClaim := { program := "ytkhplimibgjmoaa", sum := "764f4cd197d292c4dc76bf9ed81c60d4779a91b27e5d5e365ab8b0ce133dadd9", func := "tatting/tattinglaw16.HuntAny", spec := "huntAny", unfollowed := true, recurses := true, apart := false }
def HuntAnySaid : Prop := huntAnyRow.holds Try.pinned (OpenSpec.ofChange huntAnySpec)

/-- ITS FALSE NEIGHBOUR: 'it returns false'. Refute it at one input. -/
def huntAnyWrong : ChangeSpec := { name := "huntAny", fn := fun _ => fun
  | [d1, d2] => { results := [.lit (.bool false)], args := [d1, d2] }
  | _ => none }
def HuntAnyWrongFalsely : Prop := huntAnyRow.holds Try.pinned (OpenSpec.ofChange huntAnyWrong)

/-- 'tattinglaw16.HuntThresholds': WHATEVER THE INPUT: true; the input reads as it did. -/
def huntThresholdsSpec : ChangeSpec := { name := "huntThresholds", fn := fun _ => fun
  | [d1, d2] => { results := [.lit (.bool true)], args := [d1, d2] }
  | _ => none }
def huntThresholdsRow : OpenClaim := { program := "ytkhplimibgjmoaa", sum := "764f4cd197d292c4dc76bf9ed81c60d4779a91b27e5d5e365ab8b0ce133dadd9", func := "tatting/tattinglaw16.HuntThresholds", spec := "huntThresholds", unfollowed := true, recurses := true, apart := false }
def HuntThresholdsSaid : Prop := huntThresholdsRow.holds Try.pinned (OpenSpec.ofChange huntThresholdsSpec)

/-- ITS FALSE NEIGHBOUR: 'it returns false'. Refute it at one input. -/
def huntThresholdsWrong : ChangeSpec := { name := "huntThresholds", fn := fun _ => fun
  | [d1, d2] => { results := [.lit (.bool false)], args := [d1, d2] }
  | _ => none }
def HuntThresholdsWrongFalsely : Prop := huntThresholdsRow.holds Try.pinned (OpenSpec.ofChange huntThresholdsWrong)

/-- 'tattinglaw16.HuntFew': WHATEVER THE INPUT: true; the input reads as it did. -/
def huntFewSpec : ChangeSpec := { name := "huntFew", fn := fun _ => fun
  | [d1, d2] => { results := [.lit (.bool true)], args := [d1, d2] }
  | _ => none }
def huntFewRow : OpenClaim := { program := "ytkhplimibgjmoaa", sum := "764f4cd197d292c4dc76bf9ed81c60d4779a91b27e5d5e365ab8b0ce133dadd9", func := "tatting/tattinglaw16.HuntFew", spec := "huntFew", unfollowed := true, recurses := true, apart := false }
def HuntFewSaid : Prop := huntFewRow.holds Try.pinned (OpenSpec.ofChange huntFewSpec)

/-- ITS FALSE NEIGHBOUR: 'it returns false'. Refute it at one input. -/
def huntFewWrong : ChangeSpec := { name := "huntFew", fn := fun _ => fun
  | [d1, d2] => { results := [.lit (.bool false)], args := [d1, d2] }
  | _ => none }
def HuntFewWrongFalsely : Prop := huntFewRow.holds Try.pinned (OpenSpec.ofChange huntFewWrong)

/- THE SECOND FORM. 'bulk': how many values and letters a reading holds, each counted each time it is reached (what is shared counts as often as it is met; a slice's spare places count too). A statement '..UptoSaid' is the law's where the arguments, and the package variables that the reading takes, are together of bulk at most 1048576: NARROWER than '..Said'. Prove '..Said' where nothing that the law and all that it calls make is longer than what came in: it says more and counts as full. Else prove '..UptoSaid'. A law counts once. -/
mutual
def uptoBulk {H : Type} : DataW H → Nat
  | .lit (.string bytes) => bytes.length + 1
  | .lit _ => 1
  | .nil => 1
  | .ptr d => uptoBulk d + 1
  | .slice elems spare => uptoBulkAll elems + uptoBulkAll spare + 1
  | .agg parts => uptoBulkAll parts + 1
  | .iface _ d => uptoBulk d + 1
  | .map entries => uptoBulkEntries entries + 1
  | .held _ => 1
def uptoBulkAll {H : Type} : List (DataW H) → Nat
  | [] => 0
  | d :: r => uptoBulk d + uptoBulkAll r
def uptoBulkEntries {H : Type} : List (Lit × DataW H) → Nat
  | [] => 0
  | x :: r => uptoBulkEntry x + uptoBulkEntries r
def uptoBulkEntry {H : Type} : Lit × DataW H → Nat
  | (.string bytes, d) => bytes.length + uptoBulk d + 1
  | (_, d) => uptoBulk d + 1
 end
def uptoSmall : (H : Type) → List (DataW H) → Bool := fun _ ds => decide (uptoBulkAll ds ≤ 1048576)
def OpenSpec.upto (s : _root_.Go.ChangeSpec) : _root_.Go.OpenSpec := { _root_.Go.OpenSpec.ofChange s with cond := some uptoSmall }

/-- 'tattinglaw16.HuntKnown', WHERE WHAT IT READS IS OF BULK AT MOST 1048576: true; the input reads as it did. -/
def huntKnownUptoRow : OpenClaim := { program := "ytkhplimibgjmoaa", sum := "764f4cd197d292c4dc76bf9ed81c60d4779a91b27e5d5e365ab8b0ce133dadd9", func := "tatting/tattinglaw16.HuntKnown", spec := "huntKnown", unfollowed := true, recurses := true, apart := false, narrowed := true }
def HuntKnownUptoSaid : Prop := huntKnownUptoRow.holds Try.pinned (OpenSpec.upto huntKnownSpec)

/-- 'tattinglaw16.HuntRuns', WHERE WHAT IT READS IS OF BULK AT MOST 1048576: true; the input reads as it did. -/
def huntRunsUptoRow : OpenClaim := { program := "ytkhplimibgjmoaa", sum := "764f4cd197d292c4dc76bf9ed81c60d4779a91b27e5d5e365ab8b0ce133dadd9", func := "tatting/tattinglaw16.HuntRuns", spec := "huntRuns", unfollowed := true, recurses := true, apart := false, narrowed := true }
def HuntRunsUptoSaid : Prop := huntRunsUptoRow.holds Try.pinned (OpenSpec.upto huntRunsSpec)

/-- 'tattinglaw16.HuntAny', WHERE WHAT IT READS IS OF BULK AT MOST 1048576: true; the input reads as it did. -/
def huntAnyUptoRow : OpenClaim := { program := "ytkhplimibgjmoaa", sum := "764f4cd197d292c4dc76bf9ed81c60d4779a91b27e5d5e365ab8b0ce133dadd9", func := "tatting/tattinglaw16.HuntAny", spec := "huntAny", unfollowed := true, recurses := true, apart := false, narrowed := true }
def HuntAnyUptoSaid : Prop := huntAnyUptoRow.holds Try.pinned (OpenSpec.upto huntAnySpec)

/-- 'tattinglaw16.HuntThresholds', WHERE WHAT IT READS IS OF BULK AT MOST 1048576: true; the input reads as it did. -/
def huntThresholdsUptoRow : OpenClaim := { program := "ytkhplimibgjmoaa", sum := "764f4cd197d292c4dc76bf9ed81c60d4779a91b27e5d5e365ab8b0ce133dadd9", func := "tatting/tattinglaw16.HuntThresholds", spec := "huntThresholds", unfollowed := true, recurses := true, apart := false, narrowed := true }
def HuntThresholdsUptoSaid : Prop := huntThresholdsUptoRow.holds Try.pinned (OpenSpec.upto huntThresholdsSpec)

/-- 'tattinglaw16.HuntFew', WHERE WHAT IT READS IS OF BULK AT MOST 1048576: true; the input reads as it did. -/
def huntFewUptoRow : OpenClaim := { program := "ytkhplimibgjmoaa", sum := "764f4cd197d292c4dc76bf9ed81c60d4779a91b27e5d5e365ab8b0ce133dadd9", func := "tatting/tattinglaw16.HuntFew", spec := "huntFew", unfollowed := true, recurses := true, apart := false, narrowed := true }
def HuntFewUptoSaid : Prop := huntFewUptoRow.holds Try.pinned (OpenSpec.upto huntFewSpec)

end Rows
end Go.Proofs.Ytkhplimibgjmoaa
