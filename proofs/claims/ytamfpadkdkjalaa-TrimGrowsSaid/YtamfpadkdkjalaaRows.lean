/-
  No cell of these rows narrows 'for every input' (looked for: loops, veiled, ifaces, maps, wideKeys, modest, calm, conditions, laid).
  DERIVED. THE GIVEN ROWS OF THIS SEAT. 6 by the template 'for every input the law returns true; each argument reads behind the call as it read before'; 0 by the template 'total and deterministic' (their statements: YtamfpadkdkjalaaTotals.lean).
  GIVEN WITH THE SEED: the statements are not yours to turn. If you find one false, say at which input.
  Laid BY PROGRAM, IN A SANDBOX (cutbox-rows.mjs): the forced cells as the released guide's own fill.sh prints them over the translation 6eccaaacc7ad0340… (all of the seat's roots in one cut). By AI agents, Wed Nov 11 2026. No macro, syntax, notation, axiom, sorry.
-/
import Derived.Test.YtamfpadkdkjalaaChecked
import GoSem.Claim
import GoSem.ClaimJoined
import GoSem.ClaimMapViews
import Derived.JoinedTies
import Derived.KernelRfl
namespace Go.Proofs.Ytamfpadkdkjalaa
/- THE CELL 'sum', in the pinned program and in every row, IS THE sha256 OF THE DUMP (.gsa) THAT YtamfpadkdkjalaaProg.lean LOADS. Nothing in Lean hashes anything: it is a label: what it is worth is what the hold of that sum in a sandbox is worth. -/
noncomputable def Try.pinned : Pinned := { name := "ytamfpadkdkjalaa", sum := "6eccaaacc7ad03407ccb0ed62d8b156507fcd78d77e1d4e33751c528d3a6e2c6", checked := Try.checked }
namespace Rows
def none {H : Type} : Left H := { results := [], args := [] }

/-- 'tattinglaw3.TrimKnown': WHATEVER THE INPUT: true; the input reads as it did. -/
def trimKnownSpec : ChangeSpec := { name := "trimKnown", fn := fun _ => fun
  | [] => { results := [.lit (.bool true)], args := [] }
  | _ => none }
def trimKnownRow : OpenClaim := { program := "ytamfpadkdkjalaa", sum := "6eccaaacc7ad03407ccb0ed62d8b156507fcd78d77e1d4e33751c528d3a6e2c6", func := "tatting/tattinglaw3.TrimKnown", spec := "trimKnown", apart := false }
def TrimKnownSaid : Prop := trimKnownRow.holds Try.pinned (OpenSpec.ofChange trimKnownSpec)

/-- ITS FALSE NEIGHBOUR: 'it returns false'. Refute it at one input. -/
def trimKnownWrong : ChangeSpec := { name := "trimKnown", fn := fun _ => fun
  | [] => { results := [.lit (.bool false)], args := [] }
  | _ => none }
def TrimKnownWrongFalsely : Prop := trimKnownRow.holds Try.pinned (OpenSpec.ofChange trimKnownWrong)

/-- 'tattinglaw3.TrimSays': WHATEVER THE INPUT: true; the input reads as it did. -/
def trimSaysSpec : ChangeSpec := { name := "trimSays", fn := fun _ => fun
  | [d1, d2] => { results := [.lit (.bool true)], args := [d1, d2] }
  | _ => none }
def trimSaysRow : OpenClaim := { program := "ytamfpadkdkjalaa", sum := "6eccaaacc7ad03407ccb0ed62d8b156507fcd78d77e1d4e33751c528d3a6e2c6", func := "tatting/tattinglaw3.TrimSays", spec := "trimSays", apart := false }
def TrimSaysSaid : Prop := trimSaysRow.holds Try.pinned (OpenSpec.ofChange trimSaysSpec)

/-- ITS FALSE NEIGHBOUR: 'it returns false'. Refute it at one input. -/
def trimSaysWrong : ChangeSpec := { name := "trimSays", fn := fun _ => fun
  | [d1, d2] => { results := [.lit (.bool false)], args := [d1, d2] }
  | _ => none }
def TrimSaysWrongFalsely : Prop := trimSaysRow.holds Try.pinned (OpenSpec.ofChange trimSaysWrong)

/-- 'tattinglaw3.TrimEnds': WHATEVER THE INPUT: true; the input reads as it did. -/
def trimEndsSpec : ChangeSpec := { name := "trimEnds", fn := fun _ => fun
  | [d1, d2, d3, d4] => { results := [.lit (.bool true)], args := [d1, d2, d3, d4] }
  | _ => none }
def trimEndsRow : OpenClaim := { program := "ytamfpadkdkjalaa", sum := "6eccaaacc7ad03407ccb0ed62d8b156507fcd78d77e1d4e33751c528d3a6e2c6", func := "tatting/tattinglaw3.TrimEnds", spec := "trimEnds", apart := false }
def TrimEndsSaid : Prop := trimEndsRow.holds Try.pinned (OpenSpec.ofChange trimEndsSpec)

/-- ITS FALSE NEIGHBOUR: 'it returns false'. Refute it at one input. -/
def trimEndsWrong : ChangeSpec := { name := "trimEnds", fn := fun _ => fun
  | [d1, d2, d3, d4] => { results := [.lit (.bool false)], args := [d1, d2, d3, d4] }
  | _ => none }
def TrimEndsWrongFalsely : Prop := trimEndsRow.holds Try.pinned (OpenSpec.ofChange trimEndsWrong)

/-- 'tattinglaw3.TrimLen': WHATEVER THE INPUT: true; the input reads as it did. -/
def trimLenSpec : ChangeSpec := { name := "trimLen", fn := fun _ => fun
  | [d1, d2] => { results := [.lit (.bool true)], args := [d1, d2] }
  | _ => none }
def trimLenRow : OpenClaim := { program := "ytamfpadkdkjalaa", sum := "6eccaaacc7ad03407ccb0ed62d8b156507fcd78d77e1d4e33751c528d3a6e2c6", func := "tatting/tattinglaw3.TrimLen", spec := "trimLen", apart := false }
def TrimLenSaid : Prop := trimLenRow.holds Try.pinned (OpenSpec.ofChange trimLenSpec)

/-- ITS FALSE NEIGHBOUR: 'it returns false'. Refute it at one input. -/
def trimLenWrong : ChangeSpec := { name := "trimLen", fn := fun _ => fun
  | [d1, d2] => { results := [.lit (.bool false)], args := [d1, d2] }
  | _ => none }
def TrimLenWrongFalsely : Prop := trimLenRow.holds Try.pinned (OpenSpec.ofChange trimLenWrong)

/-- 'tattinglaw3.TrimGrows': WHATEVER THE INPUT: true; the input reads as it did. -/
def trimGrowsSpec : ChangeSpec := { name := "trimGrows", fn := fun _ => fun
  | [d1, d2, d3, d4, d5] => { results := [.lit (.bool true)], args := [d1, d2, d3, d4, d5] }
  | _ => none }
def trimGrowsRow : OpenClaim := { program := "ytamfpadkdkjalaa", sum := "6eccaaacc7ad03407ccb0ed62d8b156507fcd78d77e1d4e33751c528d3a6e2c6", func := "tatting/tattinglaw3.TrimGrows", spec := "trimGrows", apart := false }
def TrimGrowsSaid : Prop := trimGrowsRow.holds Try.pinned (OpenSpec.ofChange trimGrowsSpec)

/-- ITS FALSE NEIGHBOUR: 'it returns false'. Refute it at one input. -/
def trimGrowsWrong : ChangeSpec := { name := "trimGrows", fn := fun _ => fun
  | [d1, d2, d3, d4, d5] => { results := [.lit (.bool false)], args := [d1, d2, d3, d4, d5] }
  | _ => none }
def TrimGrowsWrongFalsely : Prop := trimGrowsRow.holds Try.pinned (OpenSpec.ofChange trimGrowsWrong)

/-- 'tattinglaw3.TrimFits': WHATEVER THE INPUT: true; the input reads as it did. -/
def trimFitsSpec : ChangeSpec := { name := "trimFits", fn := fun _ => fun
  | [d1, d2] => { results := [.lit (.bool true)], args := [d1, d2] }
  | _ => none }
def trimFitsRow : OpenClaim := { program := "ytamfpadkdkjalaa", sum := "6eccaaacc7ad03407ccb0ed62d8b156507fcd78d77e1d4e33751c528d3a6e2c6", func := "tatting/tattinglaw3.TrimFits", spec := "trimFits", apart := false }
def TrimFitsSaid : Prop := trimFitsRow.holds Try.pinned (OpenSpec.ofChange trimFitsSpec)

/-- ITS FALSE NEIGHBOUR: 'it returns false'. Refute it at one input. -/
def trimFitsWrong : ChangeSpec := { name := "trimFits", fn := fun _ => fun
  | [d1, d2] => { results := [.lit (.bool false)], args := [d1, d2] }
  | _ => none }
def TrimFitsWrongFalsely : Prop := trimFitsRow.holds Try.pinned (OpenSpec.ofChange trimFitsWrong)

/- THE SECOND FORM. 'bulk': how many values and letters a reading holds, each counted each time it is reached (what is shared counts as often as it is met; a slice's spare places count too). A statement '..UptoSaid' is the law's where the arguments, and the package variables that the reading takes, are together of bulk at most 1048576: NARROWER than '..Said'. Prove '..Said' where nothing that the law and all that it calls make is longer than what came in: it says more and counts as full. Else prove '..UptoSaid'. A law counts once. -/
mutual
def uptoBulk {H : Type} : DataW H → Nat
  | .lit (.string bytes) => bytes.length + 1
  | .lit _ => 1
  | .nil => 1
  | .ptr d => uptoBulk d + 1
  | .slice elems spare => uptoBulkAll elems + uptoBulkAll spare + 1
  | .agg parts => uptoBulkAll parts + 1
  | .iface _ d => uptoBulk d + 1
  | .map entries => uptoBulkEntries entries + 1
  | .held _ => 1
def uptoBulkAll {H : Type} : List (DataW H) → Nat
  | [] => 0
  | d :: r => uptoBulk d + uptoBulkAll r
def uptoBulkEntries {H : Type} : List (Lit × DataW H) → Nat
  | [] => 0
  | x :: r => uptoBulkEntry x + uptoBulkEntries r
def uptoBulkEntry {H : Type} : Lit × DataW H → Nat
  | (.string bytes, d) => bytes.length + uptoBulk d + 1
  | (_, d) => uptoBulk d + 1
 end
def uptoSmall : (H : Type) → List (DataW H) → Bool := fun _ ds => decide (uptoBulkAll ds ≤ 1048576)
def OpenSpec.upto (s : _root_.Go.ChangeSpec) : _root_.Go.OpenSpec := { _root_.Go.OpenSpec.ofChange s with cond := some uptoSmall }

/-- 'tattinglaw3.TrimKnown', WHERE WHAT IT READS IS OF BULK AT MOST 1048576: true; the input reads as it did. -/
def trimKnownUptoRow : OpenClaim := { program := "ytamfpadkdkjalaa", sum := "6eccaaacc7ad03407ccb0ed62d8b156507fcd78d77e1d4e33751c528d3a6e2c6", func := "tatting/tattinglaw3.TrimKnown", spec := "trimKnown", apart := false, narrowed := true }
def TrimKnownUptoSaid : Prop := trimKnownUptoRow.holds Try.pinned (OpenSpec.upto trimKnownSpec)

/-- 'tattinglaw3.TrimSays', WHERE WHAT IT READS IS OF BULK AT MOST 1048576: true; the input reads as it did. -/
def trimSaysUptoRow : OpenClaim := { program := "ytamfpadkdkjalaa", sum := "6eccaaacc7ad03407ccb0ed62d8b156507fcd78d77e1d4e33751c528d3a6e2c6", func := "tatting/tattinglaw3.TrimSays", spec := "trimSays", apart := false, narrowed := true }
def TrimSaysUptoSaid : Prop := trimSaysUptoRow.holds Try.pinned (OpenSpec.upto trimSaysSpec)

/-- 'tattinglaw3.TrimEnds', WHERE WHAT IT READS IS OF BULK AT MOST 1048576: true; the input reads as it did. -/
def trimEndsUptoRow : OpenClaim := { program := "ytamfpadkdkjalaa", sum := "6eccaaacc7ad03407ccb0ed62d8b156507fcd78d77e1d4e33751c528d3a6e2c6", func := "tatting/tattinglaw3.TrimEnds", spec := "trimEnds", apart := false, narrowed := true }
def TrimEndsUptoSaid : Prop := trimEndsUptoRow.holds Try.pinned (OpenSpec.upto trimEndsSpec)

/-- 'tattinglaw3.TrimLen', WHERE WHAT IT READS IS OF BULK AT MOST 1048576: true; the input reads as it did. -/
def trimLenUptoRow : OpenClaim := { program := "ytamfpadkdkjalaa", sum := "6eccaaacc7ad03407ccb0ed62d8b156507fcd78d77e1d4e33751c528d3a6e2c6", func := "tatting/tattinglaw3.TrimLen", spec := "trimLen", apart := false, narrowed := true }
def TrimLenUptoSaid : Prop := trimLenUptoRow.holds Try.pinned (OpenSpec.upto trimLenSpec)

/-- 'tattinglaw3.TrimGrows', WHERE WHAT IT READS IS OF BULK AT MOST 1048576: true; the input reads as it did. -/
def trimGrowsUptoRow : OpenClaim := { program := "ytamfpadkdkjalaa", sum := "6eccaaacc7ad03407ccb0ed62d8b156507fcd78d77e1d4e33751c528d3a6e2c6", func := "tatting/tattinglaw3.TrimGrows", spec := "trimGrows", apart := false, narrowed := true }
def TrimGrowsUptoSaid : Prop := trimGrowsUptoRow.holds Try.pinned (OpenSpec.upto trimGrowsSpec)

/-- 'tattinglaw3.TrimFits', WHERE WHAT IT READS IS OF BULK AT MOST 1048576: true; the input reads as it did. -/
def trimFitsUptoRow : OpenClaim := { program := "ytamfpadkdkjalaa", sum := "6eccaaacc7ad03407ccb0ed62d8b156507fcd78d77e1d4e33751c528d3a6e2c6", func := "tatting/tattinglaw3.TrimFits", spec := "trimFits", apart := false, narrowed := true }
def TrimFitsUptoSaid : Prop := trimFitsUptoRow.holds Try.pinned (OpenSpec.upto trimFitsSpec)

end Rows
end Go.Proofs.Ytamfpadkdkjalaa
