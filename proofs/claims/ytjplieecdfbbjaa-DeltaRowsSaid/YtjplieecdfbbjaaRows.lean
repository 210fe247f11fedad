/-
  No cell of these rows narrows 'for every input' (looked for: loops, veiled, ifaces, maps, wideKeys, modest, calm, conditions, laid).
  DERIVED. THE GIVEN ROWS OF THIS SEAT. 6 by the template 'for every input the law returns true; each argument reads behind the call as it read before'; 0 by the template 'total and deterministic' (their statements: YtjplieecdfbbjaaTotals.lean).
  GIVEN WITH THE SEED: the statements are not yours to turn. If you find one false, say at which input.
  Laid BY PROGRAM, IN A SANDBOX (cutbox-rows.mjs): the forced cells as the released guide's own fill.sh prints them over the translation d0e6d239e4c3e03b… (all of the seat's roots in one cut). By AI agents, Wed Nov 11 2026. No macro, syntax, notation, axiom, sorry.
-/
import Derived.Test.YtjplieecdfbbjaaChecked
import GoSem.Claim
import GoSem.ClaimJoined
import GoSem.ClaimMapViews
import Derived.JoinedTies
import Derived.KernelRfl
namespace Go.Proofs.Ytjplieecdfbbjaa
/- THE CELL 'sum', in the pinned program and in every row, IS THE sha256 OF THE DUMP (.gsa) THAT YtjplieecdfbbjaaProg.lean LOADS. Nothing in Lean hashes anything: it is a label: what it is worth is what the hold of that sum in a sandbox is worth. -/
noncomputable def Try.pinned : Pinned := { name := "ytjplieecdfbbjaa", sum := "d0e6d239e4c3e03bb99d38f3a7f14099b4a2e5cf5531f898b3d98899bafc5043", checked := Try.checked }
namespace Rows
def none {H : Type} : Left H := { results := [], args := [] }

/-- 'tattinglaw12.DeltaKnown': WHATEVER THE INPUT: true; the input reads as it did. -/
def deltaKnownSpec : ChangeSpec := { name := "deltaKnown", fn := fun _ => fun
  | [] => { results := [.lit (.bool true)], args := [] }
  | _ => none }
def deltaKnownRow : OpenClaim := { program := "ytjplieecdfbbjaa", sum := "d0e6d239e4c3e03bb99d38f3a7f14099b4a2e5cf5531f898b3d98899bafc5043", func := "tatting/tattinglaw12.DeltaKnown", spec := "deltaKnown", apart := false }
def DeltaKnownSaid : Prop := deltaKnownRow.holds Try.pinned (OpenSpec.ofChange deltaKnownSpec)

/-- ITS FALSE NEIGHBOUR: 'it returns false'. Refute it at one input. -/
def deltaKnownWrong : ChangeSpec := { name := "deltaKnown", fn := fun _ => fun
  | [] => { results := [.lit (.bool false)], args := [] }
  | _ => none }
def DeltaKnownWrongFalsely : Prop := deltaKnownRow.holds Try.pinned (OpenSpec.ofChange deltaKnownWrong)

/-- 'tattinglaw12.DeltaSays': WHATEVER THE INPUT: true; the input reads as it did. -/
def deltaSaysSpec : ChangeSpec := { name := "deltaSays", fn := fun _ => fun
  | [d] => { results := [.lit (.bool true)], args := [d] }
  | _ => none }
def deltaSaysRow : OpenClaim := { program := "ytjplieecdfbbjaa", sum := "d0e6d239e4c3e03bb99d38f3a7f14099b4a2e5cf5531f898b3d98899bafc5043", func := "tatting/tattinglaw12.DeltaSays", spec := "deltaSays", apart := false }
def DeltaSaysSaid : Prop := deltaSaysRow.holds Try.pinned (OpenSpec.ofChange deltaSaysSpec)

/-- ITS FALSE NEIGHBOUR: 'it returns false'. Refute it at one input. -/
def deltaSaysWrong : ChangeSpec := { name := "deltaSays", fn := fun _ => fun
  | [d] => { results := [.lit (.bool false)], args := [d] }
  | _ => none }
def DeltaSaysWrongFalsely : Prop := deltaSaysRow.holds Try.pinned (OpenSpec.ofChange deltaSaysWrong)

/-- 'tattinglaw12.DeltaRow': WHATEVER THE INPUT: true; the input reads as it did. -/
def deltaRowSpec : ChangeSpec := { name := "deltaRow", fn := fun _ => fun
  | [d1, d2] => { results := [.lit (.bool true)], args := [d1, d2] }
  | _ => none }
def deltaRowRow : OpenClaim := { program := "ytjplieecdfbbjaa", sum := "d0e6d239e4c3e03bb99d38f3a7f14099b4a2e5cf5531f898b3d98899bafc5043", func := "tatting/tattinglaw12.DeltaRow", spec := "deltaRow", apart := false }
def DeltaRowSaid : Prop := deltaRowRow.holds Try.pinned (OpenSpec.ofChange deltaRowSpec)

/-- ITS FALSE NEIGHBOUR: 'it returns false'. Refute it at one input. -/
def deltaRowWrong : ChangeSpec := { name := "deltaRow", fn := fun _ => fun
  | [d1, d2] => { results := [.lit (.bool false)], args := [d1, d2] }
  | _ => none }
def DeltaRowWrongFalsely : Prop := deltaRowRow.holds Try.pinned (OpenSpec.ofChange deltaRowWrong)

/-- 'tattinglaw12.DeltaKeys': WHATEVER THE INPUT: true; the input reads as it did. -/
def deltaKeysSpec : ChangeSpec := { name := "deltaKeys", fn := fun _ => fun
  | [d1, d2, d3, d4] => { results := [.lit (.bool true)], args := [d1, d2, d3, d4] }
  | _ => none }
def deltaKeysRow : OpenClaim := { program := "ytjplieecdfbbjaa", sum := "d0e6d239e4c3e03bb99d38f3a7f14099b4a2e5cf5531f898b3d98899bafc5043", func := "tatting/tattinglaw12.DeltaKeys", spec := "deltaKeys", apart := false }
def DeltaKeysSaid : Prop := deltaKeysRow.holds Try.pinned (OpenSpec.ofChange deltaKeysSpec)

/-- ITS FALSE NEIGHBOUR: 'it returns false'. Refute it at one input. -/
def deltaKeysWrong : ChangeSpec := { name := "deltaKeys", fn := fun _ => fun
  | [d1, d2, d3, d4] => { results := [.lit (.bool false)], args := [d1, d2, d3, d4] }
  | _ => none }
def DeltaKeysWrongFalsely : Prop := deltaKeysRow.holds Try.pinned (OpenSpec.ofChange deltaKeysWrong)

/-- 'tattinglaw12.DeltaPuts': WHATEVER THE INPUT: true; the input reads as it did. -/
def deltaPutsSpec : ChangeSpec := { name := "deltaPuts", fn := fun _ => fun
  | [d1, d2, d3, d4] => { results := [.lit (.bool true)], args := [d1, d2, d3, d4] }
  | _ => none }
def deltaPutsRow : OpenClaim := { program := "ytjplieecdfbbjaa", sum := "d0e6d239e4c3e03bb99d38f3a7f14099b4a2e5cf5531f898b3d98899bafc5043", func := "tatting/tattinglaw12.DeltaPuts", spec := "deltaPuts", apart := false }
def DeltaPutsSaid : Prop := deltaPutsRow.holds Try.pinned (OpenSpec.ofChange deltaPutsSpec)

/-- ITS FALSE NEIGHBOUR: 'it returns false'. Refute it at one input. -/
def deltaPutsWrong : ChangeSpec := { name := "deltaPuts", fn := fun _ => fun
  | [d1, d2, d3, d4] => { results := [.lit (.bool false)], args := [d1, d2, d3, d4] }
  | _ => none }
def DeltaPutsWrongFalsely : Prop := deltaPutsRow.holds Try.pinned (OpenSpec.ofChange deltaPutsWrong)

/-- 'tattinglaw12.DeltaRows': WHATEVER THE INPUT: true; the input reads as it did. -/
def deltaRowsSpec : ChangeSpec := { name := "deltaRows", fn := fun _ => fun
  | [d1, d2] => { results := [.lit (.bool true)], args := [d1, d2] }
  | _ => none }
def deltaRowsRow : OpenClaim := { program := "ytjplieecdfbbjaa", sum := "d0e6d239e4c3e03bb99d38f3a7f14099b4a2e5cf5531f898b3d98899bafc5043", func := "tatting/tattinglaw12.DeltaRows", spec := "deltaRows", apart := false }
def DeltaRowsSaid : Prop := deltaRowsRow.holds Try.pinned (OpenSpec.ofChange deltaRowsSpec)

/-- ITS FALSE NEIGHBOUR: 'it returns false'. Refute it at one input. -/
def deltaRowsWrong : ChangeSpec := { name := "deltaRows", fn := fun _ => fun
  | [d1, d2] => { results := [.lit (.bool false)], args := [d1, d2] }
  | _ => none }
def DeltaRowsWrongFalsely : Prop := deltaRowsRow.holds Try.pinned (OpenSpec.ofChange deltaRowsWrong)

/- THE SECOND FORM. 'bulk': how many values and letters a reading holds, each counted each time it is reached (what is shared counts as often as it is met; a slice's spare places count too). A statement '..UptoSaid' is the law's where the arguments, and the package variables that the reading takes, are together of bulk at most 1048576: NARROWER than '..Said'. Prove '..Said' where nothing that the law and all that it calls make is longer than what came in: it says more and counts as full. Else prove '..UptoSaid'. A law counts once. -/
mutual
def uptoBulk {H : Type} : DataW H → Nat
  | .lit (.string bytes) => bytes.length + 1
  | .lit _ => 1
  | .nil => 1
  | .ptr d => uptoBulk d + 1
  | .slice elems spare => uptoBulkAll elems + uptoBulkAll spare + 1
  | .agg parts => uptoBulkAll parts + 1
  | .iface _ d => uptoBulk d + 1
  | .map entries => uptoBulkEntries entries + 1
  | .held _ => 1
def uptoBulkAll {H : Type} : List (DataW H) → Nat
  | [] => 0
  | d :: r => uptoBulk d + uptoBulkAll r
def uptoBulkEntries {H : Type} : List (Lit × DataW H) → Nat
  | [] => 0
  | x :: r => uptoBulkEntry x + uptoBulkEntries r
def uptoBulkEntry {H : Type} : Lit × DataW H → Nat
  | (.string bytes, d) => bytes.length + uptoBulk d + 1
  | (_, d) => uptoBulk d + 1
 end
def uptoSmall : (H : Type) → List (DataW H) → Bool := fun _ ds => decide (uptoBulkAll ds ≤ 1048576)
def OpenSpec.upto (s : _root_.Go.ChangeSpec) : _root_.Go.OpenSpec := { _root_.Go.OpenSpec.ofChange s with cond := some uptoSmall }

/-- 'tattinglaw12.DeltaKnown', WHERE WHAT IT READS IS OF BULK AT MOST 1048576: true; the input reads as it did. -/
def deltaKnownUptoRow : OpenClaim := { program := "ytjplieecdfbbjaa", sum := "d0e6d239e4c3e03bb99d38f3a7f14099b4a2e5cf5531f898b3d98899bafc5043", func := "tatting/tattinglaw12.DeltaKnown", spec := "deltaKnown", apart := false, narrowed := true }
def DeltaKnownUptoSaid : Prop := deltaKnownUptoRow.holds Try.pinned (OpenSpec.upto deltaKnownSpec)

/-- 'tattinglaw12.DeltaSays', WHERE WHAT IT READS IS OF BULK AT MOST 1048576: true; the input reads as it did. -/
def deltaSaysUptoRow : OpenClaim := { program := "ytjplieecdfbbjaa", sum := "d0e6d239e4c3e03bb99d38f3a7f14099b4a2e5cf5531f898b3d98899bafc5043", func := "tatting/tattinglaw12.DeltaSays", spec := "deltaSays", apart := false, narrowed := true }
def DeltaSaysUptoSaid : Prop := deltaSaysUptoRow.holds Try.pinned (OpenSpec.upto deltaSaysSpec)

/-- 'tattinglaw12.DeltaRow', WHERE WHAT IT READS IS OF BULK AT MOST 1048576: true; the input reads as it did. -/
def deltaRowUptoRow : OpenClaim := { program := "ytjplieecdfbbjaa", sum := "d0e6d239e4c3e03bb99d38f3a7f14099b4a2e5cf5531f898b3d98899bafc5043", func := "tatting/tattinglaw12.DeltaRow", spec := "deltaRow", apart := false, narrowed := true }
def DeltaRowUptoSaid : Prop := deltaRowUptoRow.holds Try.pinned (OpenSpec.upto deltaRowSpec)

/-- 'tattinglaw12.DeltaKeys', WHERE WHAT IT READS IS OF BULK AT MOST 1048576: true; the input reads as it did. -/
def deltaKeysUptoRow : OpenClaim := { program := "ytjplieecdfbbjaa", sum := "d0e6d239e4c3e03bb99d38f3a7f14099b4a2e5cf5531f898b3d98899bafc5043", func := "tatting/tattinglaw12.DeltaKeys", spec := "deltaKeys", apart := false, narrowed := true }
def DeltaKeysUptoSaid : Prop := deltaKeysUptoRow.holds Try.pinned (OpenSpec.upto deltaKeysSpec)

/-- 'tattinglaw12.DeltaPuts', WHERE WHAT IT READS IS OF BULK AT MOST 1048576: true; the input reads as it did. -/
def deltaPutsUptoRow : OpenClaim := { program := "ytjplieecdfbbjaa", sum := "d0e6d239e4c3e03bb99d38f3a7f14099b4a2e5cf5531f898b3d98899bafc5043", func := "tatting/tattinglaw12.DeltaPuts", spec := "deltaPuts", apart := false, narrowed := true }
def DeltaPutsUptoSaid : Prop := deltaPutsUptoRow.holds Try.pinned (OpenSpec.upto deltaPutsSpec)

/-- 'tattinglaw12.DeltaRows', WHERE WHAT IT READS IS OF BULK AT MOST 1048576: true; the input reads as it did. -/
def deltaRowsUptoRow : OpenClaim := { program := "ytjplieecdfbbjaa", sum := "d0e6d239e4c3e03bb99d38f3a7f14099b4a2e5cf5531f898b3d98899bafc5043", func := "tatting/tattinglaw12.DeltaRows", spec := "deltaRows", apart := false, narrowed := true }
def DeltaRowsUptoSaid : Prop := deltaRowsUptoRow.holds Try.pinned (OpenSpec.upto deltaRowsSpec)

end Rows
end Go.Proofs.Ytjplieecdfbbjaa
