/-
  No cell of these rows narrows 'for every input' (looked for: loops, veiled, ifaces, maps, wideKeys, modest, calm, conditions, laid).
  DERIVED. THE GIVEN ROWS OF THIS SEAT. 5 by the template 'for every input the law returns true; each argument reads behind the call as it read before'; 0 by the template 'total and deterministic' (their statements: YtgholknbaanjoaaTotals.lean).
  GIVEN WITH THE SEED: the statements are not yours to turn. If you find one false, say at which input.
  Laid BY PROGRAM, IN A SANDBOX (cutbox-rows.mjs): the forced cells as the released guide's own fill.sh prints them over the translation 56bccf3c713e86d8… (all of the seat's roots in one cut). By AI agents, Wed Nov 11 2026. No macro, syntax, notation, axiom, sorry.
-/
import Derived.Test.YtgholknbaanjoaaChecked
import GoSem.Claim
import GoSem.ClaimJoined
import GoSem.ClaimMapViews
import Derived.JoinedTies
import Derived.KernelRfl
namespace Go.Proofs.Ytgholknbaanjoaa
/- THE CELL 'sum', in the pinned program and in every row, IS THE sha256 OF THE DUMP (.gsa) THAT YtgholknbaanjoaaProg.lean LOADS. Nothing in Lean hashes anything: it is a label: what it is worth is what the hold of that sum in a sandbox is worth. -/
noncomputable def Try.pinned : Pinned := { name := "ytgholknbaanjoaa", sum := "56bccf3c713e86d804a06806572b581e518e766f57152c6e300de5695e77d3fd", checked := Try.checked }
namespace Rows
def none {H : Type} : Left H := { results := [], args := [] }

/-- 'tattinglaw15.ThreshKnown': WHATEVER THE INPUT: true; the input reads as it did. -/
def threshKnownSpec : ChangeSpec := { name := "threshKnown", fn := fun _ => fun
  | [] => { results := [.lit (.bool true)], args := [] }
  | _ => none }
def threshKnownRow : OpenClaim := { program := "ytgholknbaanjoaa", sum := "56bccf3c713e86d804a06806572b581e518e766f57152c6e300de5695e77d3fd", func := "tatting/tattinglaw15.ThreshKnown", spec := "threshKnown", unfollowed := true, recurses := true, apart := false }
def ThreshKnownSaid : Prop := threshKnownRow.holds Try.pinned (OpenSpec.ofChange threshKnownSpec)

/-- ITS FALSE NEIGHBOUR: 'it returns false'. Refute it at one input. -/
def threshKnownWrong : ChangeSpec := { name := "threshKnown", fn := fun _ => fun
  | [] => { results := [.lit (.bool false)], args := [] }
  | _ => none }
def ThreshKnownWrongFalsely : Prop := threshKnownRow.holds Try.pinned (OpenSpec.ofChange threshKnownWrong)

/-- 'tattinglaw15.ThreshPuts': WHATEVER THE INPUT: true; the input reads as it did. -/
def threshPutsSpec : ChangeSpec := { name := "threshPuts", fn := fun _ => fun
  | [d1, d2] => { results := [.lit (.bool true)], args := [d1, d2] }
  | _ => none }
def threshPutsRow : OpenClaim := { program := "ytgholknbaanjoaa", sum := "56bccf3c713e86d804a06806572b581e518e766f57152c6e300de5695e77d3fd", func := "tatting/tattinglaw15.ThreshPuts", spec := "threshPuts", unfollowed := true, recurses := true, apart := false }
def ThreshPutsSaid : Prop := threshPutsRow.holds Try.pinned (OpenSpec.ofChange threshPutsSpec)

/-- ITS FALSE NEIGHBOUR: 'it returns false'. Refute it at one input. -/
def threshPutsWrong : ChangeSpec := { name := "threshPuts", fn := fun _ => fun
  | [d1, d2] => { results := [.lit (.bool false)], args := [d1, d2] }
  | _ => none }
def ThreshPutsWrongFalsely : Prop := threshPutsRow.holds Try.pinned (OpenSpec.ofChange threshPutsWrong)

/-- 'tattinglaw15.ThreshRows': WHATEVER THE INPUT: true; the input reads as it did. -/
def threshRowsSpec : ChangeSpec := { name := "threshRows", fn := fun _ => fun
  | [d1, d2] => { results := [.lit (.bool true)], args := [d1, d2] }
  | _ => none }
def threshRowsRow : OpenClaim := { program := "ytgholknbaanjoaa", sum := "56bccf3c713e86d804a06806572b581e518e766f57152c6e300de5695e77d3fd", func := "tatting/tattinglaw15.ThreshRows", spec := "threshRows", unfollowed := true, recurses := true, apart := false }
def ThreshRowsSaid : Prop := threshRowsRow.holds Try.pinned (OpenSpec.ofChange threshRowsSpec)

/-- ITS FALSE NEIGHBOUR: 'it returns false'. Refute it at one input. -/
def threshRowsWrong : ChangeSpec := { name := "threshRows", fn := fun _ => fun
  | [d1, d2] => { results := [.lit (.bool false)], args := [d1, d2] }
  | _ => none }
def ThreshRowsWrongFalsely : Prop := threshRowsRow.holds Try.pinned (OpenSpec.ofChange threshRowsWrong)

/-- 'tattinglaw15.ThreshGoes': WHATEVER THE INPUT: true; the input reads as it did. -/
def threshGoesSpec : ChangeSpec := { name := "threshGoes", fn := fun _ => fun
  | [d1, d2] => { results := [.lit (.bool true)], args := [d1, d2] }
  | _ => none }
def threshGoesRow : OpenClaim := { program := "ytgholknbaanjoaa", sum := "56bccf3c713e86d804a06806572b581e518e766f57152c6e300de5695e77d3fd", func := "tatting/tattinglaw15.ThreshGoes", spec := "threshGoes", unfollowed := true, recurses := true, apart := false }
def ThreshGoesSaid : Prop := threshGoesRow.holds Try.pinned (OpenSpec.ofChange threshGoesSpec)

/-- ITS FALSE NEIGHBOUR: 'it returns false'. Refute it at one input. -/
def threshGoesWrong : ChangeSpec := { name := "threshGoes", fn := fun _ => fun
  | [d1, d2] => { results := [.lit (.bool false)], args := [d1, d2] }
  | _ => none }
def ThreshGoesWrongFalsely : Prop := threshGoesRow.holds Try.pinned (OpenSpec.ofChange threshGoesWrong)

/-- 'tattinglaw15.ThreshLess': WHATEVER THE INPUT: true; the input reads as it did. -/
def threshLessSpec : ChangeSpec := { name := "threshLess", fn := fun _ => fun
  | [d1, d2] => { results := [.lit (.bool true)], args := [d1, d2] }
  | _ => none }
def threshLessRow : OpenClaim := { program := "ytgholknbaanjoaa", sum := "56bccf3c713e86d804a06806572b581e518e766f57152c6e300de5695e77d3fd", func := "tatting/tattinglaw15.ThreshLess", spec := "threshLess", unfollowed := true, recurses := true, apart := false }
def ThreshLessSaid : Prop := threshLessRow.holds Try.pinned (OpenSpec.ofChange threshLessSpec)

/-- ITS FALSE NEIGHBOUR: 'it returns false'. Refute it at one input. -/
def threshLessWrong : ChangeSpec := { name := "threshLess", fn := fun _ => fun
  | [d1, d2] => { results := [.lit (.bool false)], args := [d1, d2] }
  | _ => none }
def ThreshLessWrongFalsely : Prop := threshLessRow.holds Try.pinned (OpenSpec.ofChange threshLessWrong)

/- THE SECOND FORM. 'bulk': how many values and letters a reading holds, each counted each time it is reached (what is shared counts as often as it is met; a slice's spare places count too). A statement '..UptoSaid' is the law's where the arguments, and the package variables that the reading takes, are together of bulk at most 1048576: NARROWER than '..Said'. Prove '..Said' where nothing that the law and all that it calls make is longer than what came in: it says more and counts as full. Else prove '..UptoSaid'. A law counts once. -/
mutual
def uptoBulk {H : Type} : DataW H → Nat
  | .lit (.string bytes) => bytes.length + 1
  | .lit _ => 1
  | .nil => 1
  | .ptr d => uptoBulk d + 1
  | .slice elems spare => uptoBulkAll elems + uptoBulkAll spare + 1
  | .agg parts => uptoBulkAll parts + 1
  | .iface _ d => uptoBulk d + 1
  | .map entries => uptoBulkEntries entries + 1
  | .held _ => 1
def uptoBulkAll {H : Type} : List (DataW H) → Nat
  | [] => 0
  | d :: r => uptoBulk d + uptoBulkAll r
def uptoBulkEntries {H : Type} : List (Lit × DataW H) → Nat
  | [] => 0
  | x :: r => uptoBulkEntry x + uptoBulkEntries r
def uptoBulkEntry {H : Type} : Lit × DataW H → Nat
  | (.string bytes, d) => bytes.length + uptoBulk d + 1
  | (_, d) => uptoBulk d + 1
 end
def uptoSmall : (H : Type) → List (DataW H) → Bool := fun _ ds => decide (uptoBulkAll ds ≤ 1048576)
def OpenSpec.upto (s : _root_.Go.ChangeSpec) : _root_.Go.OpenSpec := { _root_.Go.OpenSpec.ofChange s with cond := some uptoSmall }

/-- 'tattinglaw15.ThreshKnown', WHERE WHAT IT READS IS OF BULK AT MOST 1048576: true; the input reads as it did. -/
def threshKnownUptoRow : OpenClaim := { program := "ytgholknbaanjoaa", sum := "56bccf3c713e86d804a06806572b581e518e766f57152c6e300de5695e77d3fd", func := "tatting/tattinglaw15.ThreshKnown", spec := "threshKnown", unfollowed := true, recurses := true, apart := false, narrowed := true }
def ThreshKnownUptoSaid : Prop := threshKnownUptoRow.holds Try.pinned (OpenSpec.upto threshKnownSpec)

/-- 'tattinglaw15.ThreshPuts', WHERE WHAT IT READS IS OF BULK AT MOST 1048576: true; the input reads as it did. -/
def threshPutsUptoRow : OpenClaim := { program := "ytgholknbaanjoaa", sum := "56bccf3c713e86d804a06806572b581e518e766f57152c6e300de5695e77d3fd", func := "tatting/tattinglaw15.ThreshPuts", spec := "threshPuts", unfollowed := true, recurses := true, apart := false, narrowed := true }
def ThreshPutsUptoSaid : Prop := threshPutsUptoRow.holds Try.pinned (OpenSpec.upto threshPutsSpec)

/-- 'tattinglaw15.ThreshRows', WHERE WHAT IT READS IS OF BULK AT MOST 1048576: true; the input reads as it did. -/
def threshRowsUptoRow : OpenClaim := { program := "ytgholknbaanjoaa", sum := "56bccf3c713e86d804a06806572b581e518e766f57152c6e300de5695e77d3fd", func := "tatting/tattinglaw15.ThreshRows", spec := "threshRows", unfollowed := true, recurses := true, apart := false, narrowed := true }
def ThreshRowsUptoSaid : Prop := threshRowsUptoRow.holds Try.pinned (OpenSpec.upto threshRowsSpec)

/-- 'tattinglaw15.ThreshGoes', WHERE WHAT IT READS IS OF BULK AT MOST 1048576: true; the input reads as it did. -/
def threshGoesUptoRow : OpenClaim := { program := "ytgholknbaanjoaa", sum := "56bccf3c713e86d804a06806572b581e518e766f57152c6e300de5695e77d3fd", func := "tatting/tattinglaw15.ThreshGoes", spec := "threshGoes", unfollowed := true, recurses := true, apart := false, narrowed := true }
def ThreshGoesUptoSaid : Prop := threshGoesUptoRow.holds Try.pinned (OpenSpec.upto threshGoesSpec)

/-- 'tattinglaw15.ThreshLess', WHERE WHAT IT READS IS OF BULK AT MOST 1048576: true; the input reads as it did. -/
def threshLessUptoRow : OpenClaim := { program := "ytgholknbaanjoaa", sum := "56bccf3c713e86d804a06806572b581e518e766f57152c6e300de5695e77d3fd", func := "tatting/tattinglaw15.ThreshLess", spec := "threshLess", unfollowed := true, recurses := true, apart := false, narrowed := true }
def ThreshLessUptoSaid : Prop := threshLessUptoRow.holds Try.pinned (OpenSpec.upto threshLessSpec)

end Rows
end Go.Proofs.Ytgholknbaanjoaa
