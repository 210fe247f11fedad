/-
  No cell of these rows narrows 'for every input' (looked for: loops, veiled, ifaces, maps, wideKeys, modest, calm, conditions, laid).
  DERIVED. THE GIVEN ROWS OF THIS SEAT. 6 by the template 'for every input the law returns true; each argument reads behind the call as it read before'; 0 by the template 'total and deterministic' (their statements: YtkcodmdfjpndiaaTotals.lean).
  GIVEN WITH THE SEED: the statements are not yours to turn. If you find one false, say at which input.
  Laid BY PROGRAM, IN A SANDBOX (cutbox-rows.mjs): the forced cells as the released guide's own fill.sh prints them over the translation 9c804f3f12830be4… (all of the seat's roots in one cut). By AI agents, Wed Nov 11 2026. No macro, syntax, notation, axiom, sorry.
-/
import Derived.Test.YtkcodmdfjpndiaaChecked
import GoSem.Claim
import GoSem.ClaimJoined
import GoSem.ClaimMapViews
import Derived.JoinedTies
import Derived.KernelRfl
namespace Go.Proofs.Ytkcodmdfjpndiaa
/- THE CELL 'sum', in the pinned program and in every row, IS THE sha256 OF THE DUMP (.gsa) THAT YtkcodmdfjpndiaaProg.lean LOADS. Nothing in Lean hashes anything: it is a label: what it is worth is what the hold of that sum in a sandbox is worth. -/
noncomputable def Try.pinned : Pinned := { name := "ytkcodmdfjpndiaa", sum := "9c804f3f12830be4e8555bf7d78fd3489d171e28b093b58a2a7aa318d1555f5e", checked := Try.checked }
namespace Rows
def none {H : Type} : Left H := { results := [], args := [] }

/-- 'tattinglaw27.CostOf': WHATEVER THE INPUT: true; the input reads as it did. -/
def costOfSpec : ChangeSpec := { name := "costOf", fn := fun _ => fun
  | [d1, d2] => { results := [.lit (.bool true)], args := [d1, d2] }
  | _ => none }
def costOfRow : OpenClaim := { program := "ytkcodmdfjpndiaa", sum := "9c804f3f12830be4e8555bf7d78fd3489d171e28b093b58a2a7aa318d1555f5e", func := "tatting/tattinglaw27.CostOf", spec := "costOf", apart := false }
def CostOfSaid : Prop := costOfRow.holds Try.pinned (OpenSpec.ofChange costOfSpec)

/-- ITS FALSE NEIGHBOUR: 'it returns false'. Refute it at one input. -/
def costOfWrong : ChangeSpec := { name := "costOf", fn := fun _ => fun
  | [d1, d2] => { results := [.lit (.bool false)], args := [d1, d2] }
  | _ => none }
def CostOfWrongFalsely : Prop := costOfRow.holds Try.pinned (OpenSpec.ofChange costOfWrong)

/-- 'tattinglaw27.CostSays': WHATEVER THE INPUT: true; the input reads as it did. -/
def costSaysSpec : ChangeSpec := { name := "costSays", fn := fun _ => fun
  | [d1, d2] => { results := [.lit (.bool true)], args := [d1, d2] }
  | _ => none }
def costSaysRow : OpenClaim := { program := "ytkcodmdfjpndiaa", sum := "9c804f3f12830be4e8555bf7d78fd3489d171e28b093b58a2a7aa318d1555f5e", func := "tatting/tattinglaw27.CostSays", spec := "costSays", apart := false }
def CostSaysSaid : Prop := costSaysRow.holds Try.pinned (OpenSpec.ofChange costSaysSpec)

/-- ITS FALSE NEIGHBOUR: 'it returns false'. Refute it at one input. -/
def costSaysWrong : ChangeSpec := { name := "costSays", fn := fun _ => fun
  | [d1, d2] => { results := [.lit (.bool false)], args := [d1, d2] }
  | _ => none }
def CostSaysWrongFalsely : Prop := costSaysRow.holds Try.pinned (OpenSpec.ofChange costSaysWrong)

/-- 'tattinglaw27.CostChooses': WHATEVER THE INPUT: true; the input reads as it did. -/
def costChoosesSpec : ChangeSpec := { name := "costChooses", fn := fun _ => fun
  | [d1, d2] => { results := [.lit (.bool true)], args := [d1, d2] }
  | _ => none }
def costChoosesRow : OpenClaim := { program := "ytkcodmdfjpndiaa", sum := "9c804f3f12830be4e8555bf7d78fd3489d171e28b093b58a2a7aa318d1555f5e", func := "tatting/tattinglaw27.CostChooses", spec := "costChooses", apart := false }
def CostChoosesSaid : Prop := costChoosesRow.holds Try.pinned (OpenSpec.ofChange costChoosesSpec)

/-- ITS FALSE NEIGHBOUR: 'it returns false'. Refute it at one input. -/
def costChoosesWrong : ChangeSpec := { name := "costChooses", fn := fun _ => fun
  | [d1, d2] => { results := [.lit (.bool false)], args := [d1, d2] }
  | _ => none }
def CostChoosesWrongFalsely : Prop := costChoosesRow.holds Try.pinned (OpenSpec.ofChange costChoosesWrong)

/-- 'tattinglaw27.CostMore': WHATEVER THE INPUT: true; the input reads as it did. -/
def costMoreSpec : ChangeSpec := { name := "costMore", fn := fun _ => fun
  | [d1, d2, d3, d4, d5, d6] => { results := [.lit (.bool true)], args := [d1, d2, d3, d4, d5, d6] }
  | _ => none }
def costMoreRow : OpenClaim := { program := "ytkcodmdfjpndiaa", sum := "9c804f3f12830be4e8555bf7d78fd3489d171e28b093b58a2a7aa318d1555f5e", func := "tatting/tattinglaw27.CostMore", spec := "costMore", apart := false }
def CostMoreSaid : Prop := costMoreRow.holds Try.pinned (OpenSpec.ofChange costMoreSpec)

/-- ITS FALSE NEIGHBOUR: 'it returns false'. Refute it at one input. -/
def costMoreWrong : ChangeSpec := { name := "costMore", fn := fun _ => fun
  | [d1, d2, d3, d4, d5, d6] => { results := [.lit (.bool false)], args := [d1, d2, d3, d4, d5, d6] }
  | _ => none }
def CostMoreWrongFalsely : Prop := costMoreRow.holds Try.pinned (OpenSpec.ofChange costMoreWrong)

/-- 'tattinglaw27.CostNames': WHATEVER THE INPUT: true; the input reads as it did. -/
def costNamesSpec : ChangeSpec := { name := "costNames", fn := fun _ => fun
  | [d1, d2] => { results := [.lit (.bool true)], args := [d1, d2] }
  | _ => none }
def costNamesRow : OpenClaim := { program := "ytkcodmdfjpndiaa", sum := "9c804f3f12830be4e8555bf7d78fd3489d171e28b093b58a2a7aa318d1555f5e", func := "tatting/tattinglaw27.CostNames", spec := "costNames", apart := false }
def CostNamesSaid : Prop := costNamesRow.holds Try.pinned (OpenSpec.ofChange costNamesSpec)

/-- ITS FALSE NEIGHBOUR: 'it returns false'. Refute it at one input. -/
def costNamesWrong : ChangeSpec := { name := "costNames", fn := fun _ => fun
  | [d1, d2] => { results := [.lit (.bool false)], args := [d1, d2] }
  | _ => none }
def CostNamesWrongFalsely : Prop := costNamesRow.holds Try.pinned (OpenSpec.ofChange costNamesWrong)

/-- 'tattinglaw27.CostKnown': WHATEVER THE INPUT: true; the input reads as it did. -/
def costKnownSpec : ChangeSpec := { name := "costKnown", fn := fun _ => fun
  | [] => { results := [.lit (.bool true)], args := [] }
  | _ => none }
def costKnownRow : OpenClaim := { program := "ytkcodmdfjpndiaa", sum := "9c804f3f12830be4e8555bf7d78fd3489d171e28b093b58a2a7aa318d1555f5e", func := "tatting/tattinglaw27.CostKnown", spec := "costKnown", apart := false }
def CostKnownSaid : Prop := costKnownRow.holds Try.pinned (OpenSpec.ofChange costKnownSpec)

/-- ITS FALSE NEIGHBOUR: 'it returns false'. Refute it at one input. -/
def costKnownWrong : ChangeSpec := { name := "costKnown", fn := fun _ => fun
  | [] => { results := [.lit (.bool false)], args := [] }
  | _ => none }
def CostKnownWrongFalsely : Prop := costKnownRow.holds Try.pinned (OpenSpec.ofChange costKnownWrong)

/- THE SECOND FORM. 'bulk': how many values and letters a reading holds, each counted each time it is reached (what is shared counts as often as it is met; a slice's spare places count too). A statement '..UptoSaid' is the law's where the arguments, and the package variables that the reading takes, are together of bulk at most 1048576: NARROWER than '..Said'. Prove '..Said' where nothing that the law and all that it calls make is longer than what came in: it says more and counts as full. Else prove '..UptoSaid'. A law counts once. -/
mutual
def uptoBulk {H : Type} : DataW H → Nat
  | .lit (.string bytes) => bytes.length + 1
  | .lit _ => 1
  | .nil => 1
  | .ptr d => uptoBulk d + 1
  | .slice elems spare => uptoBulkAll elems + uptoBulkAll spare + 1
  | .agg parts => uptoBulkAll parts + 1
  | .iface _ d => uptoBulk d + 1
  | .map entries => uptoBulkEntries entries + 1
  | .held _ => 1
def uptoBulkAll {H : Type} : List (DataW H) → Nat
  | [] => 0
  | d :: r => uptoBulk d + uptoBulkAll r
def uptoBulkEntries {H : Type} : List (Lit × DataW H) → Nat
  | [] => 0
  | x :: r => uptoBulkEntry x + uptoBulkEntries r
def uptoBulkEntry {H : Type} : Lit × DataW H → Nat
  | (.string bytes, d) => bytes.length + uptoBulk d + 1
  | (_, d) => uptoBulk d + 1
 end
def uptoSmall : (H : Type) → List (DataW H) → Bool := fun _ ds => decide (uptoBulkAll ds ≤ 1048576)
def OpenSpec.upto (s : _root_.Go.ChangeSpec) : _root_.Go.OpenSpec := { _root_.Go.OpenSpec.ofChange s with cond := some uptoSmall }

/-- 'tattinglaw27.CostOf', WHERE WHAT IT READS IS OF BULK AT MOST 1048576: true; the input reads as it did. -/
def costOfUptoRow : OpenClaim := { program := "ytkcodmdfjpndiaa", sum := "9c804f3f12830be4e8555bf7d78fd3489d171e28b093b58a2a7aa318d1555f5e", func := "tatting/tattinglaw27.CostOf", spec := "costOf", apart := false, narrowed := true }
def CostOfUptoSaid : Prop := costOfUptoRow.holds Try.pinned (OpenSpec.upto costOfSpec)

/-- 'tattinglaw27.CostSays', WHERE WHAT IT READS IS OF BULK AT MOST 1048576: true; the input reads as it did. -/
def costSaysUptoRow : OpenClaim := { program := "ytkcodmdfjpndiaa", sum := "9c804f3f12830be4e8555bf7d78fd3489d171e28b093b58a2a7aa318d1555f5e", func := "tatting/tattinglaw27.CostSays", spec := "costSays", apart := false, narrowed := true }
def CostSaysUptoSaid : Prop := costSaysUptoRow.holds Try.pinned (OpenSpec.upto costSaysSpec)

/-- 'tattinglaw27.CostChooses', WHERE WHAT IT READS IS OF BULK AT MOST 1048576: true; the input reads as it did. -/
def costChoosesUptoRow : OpenClaim := { program := "ytkcodmdfjpndiaa", sum := "9c804f3f12830be4e8555bf7d78fd3489d171e28b093b58a2a7aa318d1555f5e", func := "tatting/tattinglaw27.CostChooses", spec := "costChooses", apart := false, narrowed := true }
def CostChoosesUptoSaid : Prop := costChoosesUptoRow.holds Try.pinned (OpenSpec.upto costChoosesSpec)

/-- 'tattinglaw27.CostMore', WHERE WHAT IT READS IS OF BULK AT MOST 1048576: true; the input reads as it did. -/
def costMoreUptoRow : OpenClaim := { program := "ytkcodmdfjpndiaa", sum := "9c804f3f12830be4e8555bf7d78fd3489d171e28b093b58a2a7aa318d1555f5e", func := "tatting/tattinglaw27.CostMore", spec := "costMore", apart := false, narrowed := true }
def CostMoreUptoSaid : Prop := costMoreUptoRow.holds Try.pinned (OpenSpec.upto costMoreSpec)

/-- 'tattinglaw27.CostNames', WHERE WHAT IT READS IS OF BULK AT MOST 1048576: true; the input reads as it did. -/
def costNamesUptoRow : OpenClaim := { program := "ytkcodmdfjpndiaa", sum := "9c804f3f12830be4e8555bf7d78fd3489d171e28b093b58a2a7aa318d1555f5e", func := "tatting/tattinglaw27.CostNames", spec := "costNames", apart := false, narrowed := true }
def CostNamesUptoSaid : Prop := costNamesUptoRow.holds Try.pinned (OpenSpec.upto costNamesSpec)

/-- 'tattinglaw27.CostKnown', WHERE WHAT IT READS IS OF BULK AT MOST 1048576: true; the input reads as it did. -/
def costKnownUptoRow : OpenClaim := { program := "ytkcodmdfjpndiaa", sum := "9c804f3f12830be4e8555bf7d78fd3489d171e28b093b58a2a7aa318d1555f5e", func := "tatting/tattinglaw27.CostKnown", spec := "costKnown", apart := false, narrowed := true }
def CostKnownUptoSaid : Prop := costKnownUptoRow.holds Try.pinned (OpenSpec.upto costKnownSpec)

end Rows
end Go.Proofs.Ytkcodmdfjpndiaa
