/-
  No cell of these rows narrows 'for every input' (looked for: loops, veiled, ifaces, maps, wideKeys, modest, calm, conditions, laid).
  DERIVED. THE GIVEN ROWS OF THIS SEAT. 5 by the template 'for every input the law returns true; each argument reads behind the call as it read before'; 0 by the template 'total and deterministic' (their statements: YtclddnajmcngcaaTotals.lean).
  GIVEN WITH THE SEED: the statements are not yours to turn. If you find one false, say at which input.
  Laid BY PROGRAM, IN A SANDBOX (cutbox-rows.mjs): the forced cells as the released guide's own fill.sh prints them over the translation c1e0989f42a55d0e… (all of the seat's roots in one cut). By AI agents, Wed Nov 11 2026. No macro, syntax, notation, axiom, sorry.
-/
import Derived.Test.YtclddnajmcngcaaChecked
import GoSem.Claim
import GoSem.ClaimJoined
import GoSem.ClaimMapViews
import Derived.JoinedTies
import Derived.KernelRfl
namespace Go.Proofs.Ytclddnajmcngcaa
/- THE CELL 'sum', in the pinned program and in every row, IS THE sha256 OF THE DUMP (.gsa) THAT YtclddnajmcngcaaProg.lean LOADS. Nothing in Lean hashes anything: it is a label: what it is worth is what the hold of that sum in a sandbox is worth. -/
noncomputable def Try.pinned : Pinned := { name := "ytclddnajmcngcaa", sum := "c1e0989f42a55d0e83ba4a70f254d3801af6225955ebf599eb2cfe5b5268f868", checked := Try.checked }
namespace Rows
def none {H : Type} : Left H := { results := [], args := [] }

/-- 'tattinglaw4.OccurSays': WHATEVER THE INPUT: true; the input reads as it did. -/
def occurSaysSpec : ChangeSpec := { name := "occurSays", fn := fun _ => fun
  | [d1, d2] => { results := [.lit (.bool true)], args := [d1, d2] }
  | _ => none }
def occurSaysRow : OpenClaim := { program := "ytclddnajmcngcaa", sum := "c1e0989f42a55d0e83ba4a70f254d3801af6225955ebf599eb2cfe5b5268f868", func := "tatting/tattinglaw4.OccurSays", spec := "occurSays", apart := false }
def OccurSaysSaid : Prop := occurSaysRow.holds Try.pinned (OpenSpec.ofChange occurSaysSpec)

/-- ITS FALSE NEIGHBOUR: 'it returns false'. Refute it at one input. -/
def occurSaysWrong : ChangeSpec := { name := "occurSays", fn := fun _ => fun
  | [d1, d2] => { results := [.lit (.bool false)], args := [d1, d2] }
  | _ => none }
def OccurSaysWrongFalsely : Prop := occurSaysRow.holds Try.pinned (OpenSpec.ofChange occurSaysWrong)

/-- 'tattinglaw4.OccurParts': WHATEVER THE INPUT: true; the input reads as it did. -/
def occurPartsSpec : ChangeSpec := { name := "occurParts", fn := fun _ => fun
  | [d] => { results := [.lit (.bool true)], args := [d] }
  | _ => none }
def occurPartsRow : OpenClaim := { program := "ytclddnajmcngcaa", sum := "c1e0989f42a55d0e83ba4a70f254d3801af6225955ebf599eb2cfe5b5268f868", func := "tatting/tattinglaw4.OccurParts", spec := "occurParts", apart := false }
def OccurPartsSaid : Prop := occurPartsRow.holds Try.pinned (OpenSpec.ofChange occurPartsSpec)

/-- ITS FALSE NEIGHBOUR: 'it returns false'. Refute it at one input. -/
def occurPartsWrong : ChangeSpec := { name := "occurParts", fn := fun _ => fun
  | [d] => { results := [.lit (.bool false)], args := [d] }
  | _ => none }
def OccurPartsWrongFalsely : Prop := occurPartsRow.holds Try.pinned (OpenSpec.ofChange occurPartsWrong)

/-- 'tattinglaw4.OccurHits': WHATEVER THE INPUT: true; the input reads as it did. -/
def occurHitsSpec : ChangeSpec := { name := "occurHits", fn := fun _ => fun
  | [d1, d2] => { results := [.lit (.bool true)], args := [d1, d2] }
  | _ => none }
def occurHitsRow : OpenClaim := { program := "ytclddnajmcngcaa", sum := "c1e0989f42a55d0e83ba4a70f254d3801af6225955ebf599eb2cfe5b5268f868", func := "tatting/tattinglaw4.OccurHits", spec := "occurHits", apart := false }
def OccurHitsSaid : Prop := occurHitsRow.holds Try.pinned (OpenSpec.ofChange occurHitsSpec)

/-- ITS FALSE NEIGHBOUR: 'it returns false'. Refute it at one input. -/
def occurHitsWrong : ChangeSpec := { name := "occurHits", fn := fun _ => fun
  | [d1, d2] => { results := [.lit (.bool false)], args := [d1, d2] }
  | _ => none }
def OccurHitsWrongFalsely : Prop := occurHitsRow.holds Try.pinned (OpenSpec.ofChange occurHitsWrong)

/-- 'tattinglaw4.OccurNext': WHATEVER THE INPUT: true; the input reads as it did. -/
def occurNextSpec : ChangeSpec := { name := "occurNext", fn := fun _ => fun
  | [d1, d2, d3] => { results := [.lit (.bool true)], args := [d1, d2, d3] }
  | _ => none }
def occurNextRow : OpenClaim := { program := "ytclddnajmcngcaa", sum := "c1e0989f42a55d0e83ba4a70f254d3801af6225955ebf599eb2cfe5b5268f868", func := "tatting/tattinglaw4.OccurNext", spec := "occurNext", apart := false }
def OccurNextSaid : Prop := occurNextRow.holds Try.pinned (OpenSpec.ofChange occurNextSpec)

/-- ITS FALSE NEIGHBOUR: 'it returns false'. Refute it at one input. -/
def occurNextWrong : ChangeSpec := { name := "occurNext", fn := fun _ => fun
  | [d1, d2, d3] => { results := [.lit (.bool false)], args := [d1, d2, d3] }
  | _ => none }
def OccurNextWrongFalsely : Prop := occurNextRow.holds Try.pinned (OpenSpec.ofChange occurNextWrong)

/-- 'tattinglaw4.OccurKnown': WHATEVER THE INPUT: true; the input reads as it did. -/
def occurKnownSpec : ChangeSpec := { name := "occurKnown", fn := fun _ => fun
  | [] => { results := [.lit (.bool true)], args := [] }
  | _ => none }
def occurKnownRow : OpenClaim := { program := "ytclddnajmcngcaa", sum := "c1e0989f42a55d0e83ba4a70f254d3801af6225955ebf599eb2cfe5b5268f868", func := "tatting/tattinglaw4.OccurKnown", spec := "occurKnown", apart := false }
def OccurKnownSaid : Prop := occurKnownRow.holds Try.pinned (OpenSpec.ofChange occurKnownSpec)

/-- ITS FALSE NEIGHBOUR: 'it returns false'. Refute it at one input. -/
def occurKnownWrong : ChangeSpec := { name := "occurKnown", fn := fun _ => fun
  | [] => { results := [.lit (.bool false)], args := [] }
  | _ => none }
def OccurKnownWrongFalsely : Prop := occurKnownRow.holds Try.pinned (OpenSpec.ofChange occurKnownWrong)

/- THE SECOND FORM. 'bulk': how many values and letters a reading holds, each counted each time it is reached (what is shared counts as often as it is met; a slice's spare places count too). A statement '..UptoSaid' is the law's where the arguments, and the package variables that the reading takes, are together of bulk at most 1048576: NARROWER than '..Said'. Prove '..Said' where nothing that the law and all that it calls make is longer than what came in: it says more and counts as full. Else prove '..UptoSaid'. A law counts once. -/
mutual
def uptoBulk {H : Type} : DataW H → Nat
  | .lit (.string bytes) => bytes.length + 1
  | .lit _ => 1
  | .nil => 1
  | .ptr d => uptoBulk d + 1
  | .slice elems spare => uptoBulkAll elems + uptoBulkAll spare + 1
  | .agg parts => uptoBulkAll parts + 1
  | .iface _ d => uptoBulk d + 1
  | .map entries => uptoBulkEntries entries + 1
  | .held _ => 1
def uptoBulkAll {H : Type} : List (DataW H) → Nat
  | [] => 0
  | d :: r => uptoBulk d + uptoBulkAll r
def uptoBulkEntries {H : Type} : List (Lit × DataW H) → Nat
  | [] => 0
  | x :: r => uptoBulkEntry x + uptoBulkEntries r
def uptoBulkEntry {H : Type} : Lit × DataW H → Nat
  | (.string bytes, d) => bytes.length + uptoBulk d + 1
  | (_, d) => uptoBulk d + 1
 end
def uptoSmall : (H : Type) → List (DataW H) → Bool := fun _ ds => decide (uptoBulkAll ds ≤ 1048576)
def OpenSpec.upto (s : _root_.Go.ChangeSpec) : _root_.Go.OpenSpec := { _root_.Go.OpenSpec.ofChange s with cond := some uptoSmall }

/-- 'tattinglaw4.OccurSays', WHERE WHAT IT READS IS OF BULK AT MOST 1048576: true; the input reads as it did. -/
def occurSaysUptoRow : OpenClaim := { program := "ytclddnajmcngcaa", sum := "c1e0989f42a55d0e83ba4a70f254d3801af6225955ebf599eb2cfe5b5268f868", func := "tatting/tattinglaw4.OccurSays", spec := "occurSays", apart := false, narrowed := true }
def OccurSaysUptoSaid : Prop := occurSaysUptoRow.holds Try.pinned (OpenSpec.upto occurSaysSpec)

/-- 'tattinglaw4.OccurParts', WHERE WHAT IT READS IS OF BULK AT MOST 1048576: true; the input reads as it did. -/
def occurPartsUptoRow : OpenClaim := { program := "ytclddnajmcngcaa", sum := "c1e0989f42a55d0e83ba4a70f254d3801af6225955ebf599eb2cfe5b5268f868", func := "tatting/tattinglaw4.OccurParts", spec := "occurParts", apart := false, narrowed := true }
def OccurPartsUptoSaid : Prop := occurPartsUptoRow.holds Try.pinned (OpenSpec.upto occurPartsSpec)

/-- 'tattinglaw4.OccurHits', WHERE WHAT IT READS IS OF BULK AT MOST 1048576: true; the input reads as it did. -/
def occurHitsUptoRow : OpenClaim := { program := "ytclddnajmcngcaa", sum := "c1e0989f42a55d0e83ba4a70f254d3801af6225955ebf599eb2cfe5b5268f868", func := "tatting/tattinglaw4.OccurHits", spec := "occurHits", apart := false, narrowed := true }
def OccurHitsUptoSaid : Prop := occurHitsUptoRow.holds Try.pinned (OpenSpec.upto occurHitsSpec)

/-- 'tattinglaw4.OccurNext', WHERE WHAT IT READS IS OF BULK AT MOST 1048576: true; the input reads as it did. -/
def occurNextUptoRow : OpenClaim := { program := "ytclddnajmcngcaa", sum := "c1e0989f42a55d0e83ba4a70f254d3801af6225955ebf599eb2cfe5b5268f868", func := "tatting/tattinglaw4.OccurNext", spec := "occurNext", apart := false, narrowed := true }
def OccurNextUptoSaid : Prop := occurNextUptoRow.holds Try.pinned (OpenSpec.upto occurNextSpec)

/-- 'tattinglaw4.OccurKnown', WHERE WHAT IT READS IS OF BULK AT MOST 1048576: true; the input reads as it did. -/
def occurKnownUptoRow : OpenClaim := { program := "ytclddnajmcngcaa", sum := "c1e0989f42a55d0e83ba4a70f254d3801af6225955ebf599eb2cfe5b5268f868", func := "tatting/tattinglaw4.OccurKnown", spec := "occurKnown", apart := false, narrowed := true }
def OccurKnownUptoSaid : Prop := occurKnownUptoRow.holds Try.pinned (OpenSpec.upto occurKnownSpec)

end Rows
end Go.Proofs.Ytclddnajmcngcaa
