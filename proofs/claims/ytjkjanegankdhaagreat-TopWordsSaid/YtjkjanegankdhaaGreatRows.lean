/-
  No cell of these rows narrows 'for every input' (looked for: loops, veiled, ifaces, maps, wideKeys, modest, calm, conditions, laid).
  DERIVED. THE GIVEN ROWS OF THIS SEAT. 6 by the template 'for every input the law returns true; each argument reads behind the call as it read before'; 0 by the template 'total and deterministic' (their statements: YtjkjanegankdhaaGreatTotals.lean).
  GIVEN WITH THE SEED: the statements are not yours to turn. If you find one false, say at which input.
  Laid BY PROGRAM, IN A SANDBOX (cutbox-rows.mjs): the forced cells as the released guide's own fill.sh prints them over the translation 6796f3850c5b8fd5… (all of the seat's roots in one cut). By AI agents, Wed Nov 11 2026. No macro, syntax, notation, axiom, sorry.
-/
import Derived.Test.YtjkjanegankdhaaGreatChecked
import GoSem.Claim
import GoSem.ClaimJoined
import GoSem.ClaimMapViews
import Derived.JoinedTies
import Derived.KernelRfl
namespace Go.Proofs.YtjkjanegankdhaaGreat
/- THE CELL 'sum', in the pinned program and in every row, IS THE sha256 OF THE DUMP (.gsa) THAT YtjkjanegankdhaaGreatProg.lean LOADS. Nothing in Lean hashes anything: it is a label: what it is worth is what the hold of that sum in a sandbox is worth. -/
noncomputable def Tryz.pinned : Pinned := { name := "ytjkjanegankdhaagreat", sum := "6796f3850c5b8fd5f028f89b79ce06966f4dc605ed3b32c1b5fa685fb536b9b2", checked := Tryz.checked }
namespace Rows
def none {H : Type} : Left H := { results := [], args := [] }

/-- 'tattingtop.TopEngines': WHATEVER THE INPUT: true; the input reads as it did. -/
def topEnginesSpec : ChangeSpec := { name := "topEngines", fn := fun _ => fun
  | [d1, d2, d3] => { results := [.lit (.bool true)], args := [d1, d2, d3] }
  | _ => none }
def topEnginesRow : OpenClaim := { program := "ytjkjanegankdhaagreat", sum := "6796f3850c5b8fd5f028f89b79ce06966f4dc605ed3b32c1b5fa685fb536b9b2", func := "tatting/tattingtop.TopEngines", spec := "topEngines", inPlace := ["internal/bytealg.Count", "internal/bytealg.IndexByte", "internal/bytealg.Index", "internal/bytealg.Compare", "sync/atomic.LoadUint32", "(*internal/sync.Mutex).Lock", "internal/race.Disable", "sync/atomic.CompareAndSwapInt32", "internal/race.Enable", "internal/race.Acquire", "(*internal/sync.Mutex).lockSlow", "internal/sync.runtime_canSpin", "internal/sync.runtime_doSpin", "internal/sync.throw", "internal/sync.runtime_nanotime", "internal/sync.runtime_SemacquireMutex", "sync/atomic.AddInt32", "(*internal/sync.Mutex).Unlock", "internal/race.ReleaseMerge", "(*internal/sync.Mutex).unlockSlow", "internal/sync.fatal", "internal/sync.runtime_Semrelease", "sync/atomic.StoreUint32", "math/bits.Add64", "math/bits.Sub64"], unfollowed := true, recurses := true, named := ["internal/bytealg.MaxLen"], apart := false }
def TopEnginesSaid : Prop := topEnginesRow.holds Tryz.pinned (OpenSpec.ofChange topEnginesSpec)

/-- ITS FALSE NEIGHBOUR: 'it returns false'. Refute it at one input. -/
def topEnginesWrong : ChangeSpec := { name := "topEngines", fn := fun _ => fun
  | [d1, d2, d3] => { results := [.lit (.bool false)], args := [d1, d2, d3] }
  | _ => none }
def TopEnginesWrongFalsely : Prop := topEnginesRow.holds Tryz.pinned (OpenSpec.ofChange topEnginesWrong)

/-- 'tattingtop.TopChosen': WHATEVER THE INPUT: true; the input reads as it did. -/
def topChosenSpec : ChangeSpec := { name := "topChosen", fn := fun _ => fun
  | [d1, d2, d3, d4] => { results := [.lit (.bool true)], args := [d1, d2, d3, d4] }
  | _ => none }
def topChosenRow : OpenClaim := { program := "ytjkjanegankdhaagreat", sum := "6796f3850c5b8fd5f028f89b79ce06966f4dc605ed3b32c1b5fa685fb536b9b2", func := "tatting/tattingtop.TopChosen", spec := "topChosen", inPlace := ["internal/bytealg.Count", "internal/bytealg.IndexByte", "internal/bytealg.Index", "internal/bytealg.Compare", "sync/atomic.LoadUint32", "(*internal/sync.Mutex).Lock", "internal/race.Disable", "sync/atomic.CompareAndSwapInt32", "internal/race.Enable", "internal/race.Acquire", "(*internal/sync.Mutex).lockSlow", "internal/sync.runtime_canSpin", "internal/sync.runtime_doSpin", "internal/sync.throw", "internal/sync.runtime_nanotime", "internal/sync.runtime_SemacquireMutex", "sync/atomic.AddInt32", "(*internal/sync.Mutex).Unlock", "internal/race.ReleaseMerge", "(*internal/sync.Mutex).unlockSlow", "internal/sync.fatal", "internal/sync.runtime_Semrelease", "sync/atomic.StoreUint32", "math/bits.Add64", "math/bits.Sub64"], unfollowed := true, recurses := true, named := ["internal/bytealg.MaxLen"], apart := false }
def TopChosenSaid : Prop := topChosenRow.holds Tryz.pinned (OpenSpec.ofChange topChosenSpec)

/-- ITS FALSE NEIGHBOUR: 'it returns false'. Refute it at one input. -/
def topChosenWrong : ChangeSpec := { name := "topChosen", fn := fun _ => fun
  | [d1, d2, d3, d4] => { results := [.lit (.bool false)], args := [d1, d2, d3, d4] }
  | _ => none }
def TopChosenWrongFalsely : Prop := topChosenRow.holds Tryz.pinned (OpenSpec.ofChange topChosenWrong)

/-- 'tattingtop.TopCounts': WHATEVER THE INPUT: true; the input reads as it did. -/
def topCountsSpec : ChangeSpec := { name := "topCounts", fn := fun _ => fun
  | [d1, d2, d3, d4] => { results := [.lit (.bool true)], args := [d1, d2, d3, d4] }
  | _ => none }
def topCountsRow : OpenClaim := { program := "ytjkjanegankdhaagreat", sum := "6796f3850c5b8fd5f028f89b79ce06966f4dc605ed3b32c1b5fa685fb536b9b2", func := "tatting/tattingtop.TopCounts", spec := "topCounts", inPlace := ["internal/bytealg.Count", "internal/bytealg.IndexByte", "internal/bytealg.Index", "internal/bytealg.Compare", "sync/atomic.LoadUint32", "(*internal/sync.Mutex).Lock", "internal/race.Disable", "sync/atomic.CompareAndSwapInt32", "internal/race.Enable", "internal/race.Acquire", "(*internal/sync.Mutex).lockSlow", "internal/sync.runtime_canSpin", "internal/sync.runtime_doSpin", "internal/sync.throw", "internal/sync.runtime_nanotime", "internal/sync.runtime_SemacquireMutex", "sync/atomic.AddInt32", "(*internal/sync.Mutex).Unlock", "internal/race.ReleaseMerge", "(*internal/sync.Mutex).unlockSlow", "internal/sync.fatal", "internal/sync.runtime_Semrelease", "sync/atomic.StoreUint32", "math/bits.Add64", "math/bits.Sub64"], unfollowed := true, recurses := true, named := ["internal/bytealg.MaxLen"], apart := false }
def TopCountsSaid : Prop := topCountsRow.holds Tryz.pinned (OpenSpec.ofChange topCountsSpec)

/-- ITS FALSE NEIGHBOUR: 'it returns false'. Refute it at one input. -/
def topCountsWrong : ChangeSpec := { name := "topCounts", fn := fun _ => fun
  | [d1, d2, d3, d4] => { results := [.lit (.bool false)], args := [d1, d2, d3, d4] }
  | _ => none }
def TopCountsWrongFalsely : Prop := topCountsRow.holds Tryz.pinned (OpenSpec.ofChange topCountsWrong)

/-- 'tattingtop.TopSteps': WHATEVER THE INPUT: true; the input reads as it did. -/
def topStepsSpec : ChangeSpec := { name := "topSteps", fn := fun _ => fun
  | [d1, d2, d3, d4] => { results := [.lit (.bool true)], args := [d1, d2, d3, d4] }
  | _ => none }
def topStepsRow : OpenClaim := { program := "ytjkjanegankdhaagreat", sum := "6796f3850c5b8fd5f028f89b79ce06966f4dc605ed3b32c1b5fa685fb536b9b2", func := "tatting/tattingtop.TopSteps", spec := "topSteps", inPlace := ["internal/bytealg.Count", "internal/bytealg.IndexByte", "internal/bytealg.Index", "internal/bytealg.Compare", "sync/atomic.LoadUint32", "(*internal/sync.Mutex).Lock", "internal/race.Disable", "sync/atomic.CompareAndSwapInt32", "internal/race.Enable", "internal/race.Acquire", "(*internal/sync.Mutex).lockSlow", "internal/sync.runtime_canSpin", "internal/sync.runtime_doSpin", "internal/sync.throw", "internal/sync.runtime_nanotime", "internal/sync.runtime_SemacquireMutex", "sync/atomic.AddInt32", "(*internal/sync.Mutex).Unlock", "internal/race.ReleaseMerge", "(*internal/sync.Mutex).unlockSlow", "internal/sync.fatal", "internal/sync.runtime_Semrelease", "sync/atomic.StoreUint32", "math/bits.Add64", "math/bits.Sub64"], unfollowed := true, recurses := true, named := ["internal/bytealg.MaxLen"], apart := false }
def TopStepsSaid : Prop := topStepsRow.holds Tryz.pinned (OpenSpec.ofChange topStepsSpec)

/-- ITS FALSE NEIGHBOUR: 'it returns false'. Refute it at one input. -/
def topStepsWrong : ChangeSpec := { name := "topSteps", fn := fun _ => fun
  | [d1, d2, d3, d4] => { results := [.lit (.bool false)], args := [d1, d2, d3, d4] }
  | _ => none }
def TopStepsWrongFalsely : Prop := topStepsRow.holds Tryz.pinned (OpenSpec.ofChange topStepsWrong)

/-- 'tattingtop.TopRows': WHATEVER THE INPUT: true; the input reads as it did. -/
def topRowsSpec : ChangeSpec := { name := "topRows", fn := fun _ => fun
  | [d1, d2] => { results := [.lit (.bool true)], args := [d1, d2] }
  | _ => none }
def topRowsRow : OpenClaim := { program := "ytjkjanegankdhaagreat", sum := "6796f3850c5b8fd5f028f89b79ce06966f4dc605ed3b32c1b5fa685fb536b9b2", func := "tatting/tattingtop.TopRows", spec := "topRows", inPlace := ["internal/bytealg.Count", "internal/bytealg.IndexByte", "internal/bytealg.Index", "internal/bytealg.Compare", "sync/atomic.LoadUint32", "(*internal/sync.Mutex).Lock", "internal/race.Disable", "sync/atomic.CompareAndSwapInt32", "internal/race.Enable", "internal/race.Acquire", "(*internal/sync.Mutex).lockSlow", "internal/sync.runtime_canSpin", "internal/sync.runtime_doSpin", "internal/sync.throw", "internal/sync.runtime_nanotime", "internal/sync.runtime_SemacquireMutex", "sync/atomic.AddInt32", "(*internal/sync.Mutex).Unlock", "internal/race.ReleaseMerge", "(*internal/sync.Mutex).unlockSlow", "internal/sync.fatal", "internal/sync.runtime_Semrelease", "sync/atomic.StoreUint32", "math/bits.Add64", "math/bits.Sub64"], unfollowed := true, recurses := true, named := ["internal/bytealg.MaxLen"], apart := false }
def TopRowsSaid : Prop := topRowsRow.holds Tryz.pinned (OpenSpec.ofChange topRowsSpec)

/-- ITS FALSE NEIGHBOUR: 'it returns false'. Refute it at one input. -/
def topRowsWrong : ChangeSpec := { name := "topRows", fn := fun _ => fun
  | [d1, d2] => { results := [.lit (.bool false)], args := [d1, d2] }
  | _ => none }
def TopRowsWrongFalsely : Prop := topRowsRow.holds Tryz.pinned (OpenSpec.ofChange topRowsWrong)

/-- 'tattingtop.TopWords': WHATEVER THE INPUT: true; the input reads as it did. -/
def topWordsSpec : ChangeSpec := { name := "topWords", fn := fun _ => fun
  | [d1, d2, d3, d4] => { results := [.lit (.bool true)], args := [d1, d2, d3, d4] }
  | _ => none }
def topWordsRow : OpenClaim := { program := "ytjkjanegankdhaagreat", sum := "6796f3850c5b8fd5f028f89b79ce06966f4dc605ed3b32c1b5fa685fb536b9b2", func := "tatting/tattingtop.TopWords", spec := "topWords", inPlace := ["internal/bytealg.Count", "internal/bytealg.IndexByte", "internal/bytealg.Index", "internal/bytealg.Compare", "sync/atomic.LoadUint32", "(*internal/sync.Mutex).Lock", "internal/race.Disable", "sync/atomic.CompareAndSwapInt32", "internal/race.Enable", "internal/race.Acquire", "(*internal/sync.Mutex).lockSlow", "internal/sync.runtime_canSpin", "internal/sync.runtime_doSpin", "internal/sync.throw", "internal/sync.runtime_nanotime", "internal/sync.runtime_SemacquireMutex", "sync/atomic.AddInt32", "(*internal/sync.Mutex).Unlock", "internal/race.ReleaseMerge", "(*internal/sync.Mutex).unlockSlow", "internal/sync.fatal", "internal/sync.runtime_Semrelease", "sync/atomic.StoreUint32", "math/bits.Add64", "math/bits.Sub64"], unfollowed := true, recurses := true, named := ["internal/bytealg.MaxLen"], apart := false }
def TopWordsSaid : Prop := topWordsRow.holds Tryz.pinned (OpenSpec.ofChange topWordsSpec)

/-- ITS FALSE NEIGHBOUR: 'it returns false'. Refute it at one input. -/
def topWordsWrong : ChangeSpec := { name := "topWords", fn := fun _ => fun
  | [d1, d2, d3, d4] => { results := [.lit (.bool false)], args := [d1, d2, d3, d4] }
  | _ => none }
def TopWordsWrongFalsely : Prop := topWordsRow.holds Tryz.pinned (OpenSpec.ofChange topWordsWrong)

/- THE SECOND FORM. 'bulk': how many values and letters a reading holds, each counted each time it is reached (what is shared counts as often as it is met; a slice's spare places count too). A statement '..UptoSaid' is the law's where the arguments, and the package variables that the reading takes, are together of bulk at most 1048576: NARROWER than '..Said'. Prove '..Said' where nothing that the law and all that it calls make is longer than what came in: it says more and counts as full. Else prove '..UptoSaid'. A law counts once. -/
mutual
def uptoBulk {H : Type} : DataW H → Nat
  | .lit (.string bytes) => bytes.length + 1
  | .lit _ => 1
  | .nil => 1
  | .ptr d => uptoBulk d + 1
  | .slice elems spare => uptoBulkAll elems + uptoBulkAll spare + 1
  | .agg parts => uptoBulkAll parts + 1
  | .iface _ d => uptoBulk d + 1
  | .map entries => uptoBulkEntries entries + 1
  | .held _ => 1
def uptoBulkAll {H : Type} : List (DataW H) → Nat
  | [] => 0
  | d :: r => uptoBulk d + uptoBulkAll r
def uptoBulkEntries {H : Type} : List (Lit × DataW H) → Nat
  | [] => 0
  | x :: r => uptoBulkEntry x + uptoBulkEntries r
def uptoBulkEntry {H : Type} : Lit × DataW H → Nat
  | (.string bytes, d) => bytes.length + uptoBulk d + 1
  | (_, d) => uptoBulk d + 1
 end
def uptoSmall : (H : Type) → List (DataW H) → Bool := fun _ ds => decide (uptoBulkAll ds ≤ 1048576)
def OpenSpec.upto (s : _root_.Go.ChangeSpec) : _root_.Go.OpenSpec := { _root_.Go.OpenSpec.ofChange s with cond := some uptoSmall }

/-- 'tattingtop.TopEngines', WHERE WHAT IT READS IS OF BULK AT MOST 1048576: true; the input reads as it did. -/
def topEnginesUptoRow : OpenClaim := { program := "ytjkjanegankdhaagreat", sum := "6796f3850c5b8fd5f028f89b79ce06966f4dc605ed3b32c1b5fa685fb536b9b2", func := "tatting/tattingtop.TopEngines", spec := "topEngines", inPlace := ["internal/bytealg.Count", "internal/bytealg.IndexByte", "internal/bytealg.Index", "internal/bytealg.Compare", "sync/atomic.LoadUint32", "(*internal/sync.Mutex).Lock", "internal/race.Disable", "sync/atomic.CompareAndSwapInt32", "internal/race.Enable", "internal/race.Acquire", "(*internal/sync.Mutex).lockSlow", "internal/sync.runtime_canSpin", "internal/sync.runtime_doSpin", "internal/sync.throw", "internal/sync.runtime_nanotime", "internal/sync.runtime_SemacquireMutex", "sync/atomic.AddInt32", "(*internal/sync.Mutex).Unlock", "internal/race.ReleaseMerge", "(*internal/sync.Mutex).unlockSlow", "internal/sync.fatal", "internal/sync.runtime_Semrelease", "sync/atomic.StoreUint32", "math/bits.Add64", "math/bits.Sub64"], unfollowed := true, recurses := true, named := ["internal/bytealg.MaxLen"], apart := false, narrowed := true }
def TopEnginesUptoSaid : Prop := topEnginesUptoRow.holds Tryz.pinned (OpenSpec.upto topEnginesSpec)

/-- 'tattingtop.TopChosen', WHERE WHAT IT READS IS OF BULK AT MOST 1048576: true; the input reads as it did. -/
def topChosenUptoRow : OpenClaim := { program := "ytjkjanegankdhaagreat", sum := "6796f3850c5b8fd5f028f89b79ce06966f4dc605ed3b32c1b5fa685fb536b9b2", func := "tatting/tattingtop.TopChosen", spec := "topChosen", inPlace := ["internal/bytealg.Count", "internal/bytealg.IndexByte", "internal/bytealg.Index", "internal/bytealg.Compare", "sync/atomic.LoadUint32", "(*internal/sync.Mutex).Lock", "internal/race.Disable", "sync/atomic.CompareAndSwapInt32", "internal/race.Enable", "internal/race.Acquire", "(*internal/sync.Mutex).lockSlow", "internal/sync.runtime_canSpin", "internal/sync.runtime_doSpin", "internal/sync.throw", "internal/sync.runtime_nanotime", "internal/sync.runtime_SemacquireMutex", "sync/atomic.AddInt32", "(*internal/sync.Mutex).Unlock", "internal/race.ReleaseMerge", "(*internal/sync.Mutex).unlockSlow", "internal/sync.fatal", "internal/sync.runtime_Semrelease", "sync/atomic.StoreUint32", "math/bits.Add64", "math/bits.Sub64"], unfollowed := true, recurses := true, named := ["internal/bytealg.MaxLen"], apart := false, narrowed := true }
def TopChosenUptoSaid : Prop := topChosenUptoRow.holds Tryz.pinned (OpenSpec.upto topChosenSpec)

/-- 'tattingtop.TopCounts', WHERE WHAT IT READS IS OF BULK AT MOST 1048576: true; the input reads as it did. -/
def topCountsUptoRow : OpenClaim := { program := "ytjkjanegankdhaagreat", sum := "6796f3850c5b8fd5f028f89b79ce06966f4dc605ed3b32c1b5fa685fb536b9b2", func := "tatting/tattingtop.TopCounts", spec := "topCounts", inPlace := ["internal/bytealg.Count", "internal/bytealg.IndexByte", "internal/bytealg.Index", "internal/bytealg.Compare", "sync/atomic.LoadUint32", "(*internal/sync.Mutex).Lock", "internal/race.Disable", "sync/atomic.CompareAndSwapInt32", "internal/race.Enable", "internal/race.Acquire", "(*internal/sync.Mutex).lockSlow", "internal/sync.runtime_canSpin", "internal/sync.runtime_doSpin", "internal/sync.throw", "internal/sync.runtime_nanotime", "internal/sync.runtime_SemacquireMutex", "sync/atomic.AddInt32", "(*internal/sync.Mutex).Unlock", "internal/race.ReleaseMerge", "(*internal/sync.Mutex).unlockSlow", "internal/sync.fatal", "internal/sync.runtime_Semrelease", "sync/atomic.StoreUint32", "math/bits.Add64", "math/bits.Sub64"], unfollowed := true, recurses := true, named := ["internal/bytealg.MaxLen"], apart := false, narrowed := true }
def TopCountsUptoSaid : Prop := topCountsUptoRow.holds Tryz.pinned (OpenSpec.upto topCountsSpec)

/-- 'tattingtop.TopSteps', WHERE WHAT IT READS IS OF BULK AT MOST 1048576: true; the input reads as it did. -/
def topStepsUptoRow : OpenClaim := { program := "ytjkjanegankdhaagreat", sum := "6796f3850c5b8fd5f028f89b79ce06966f4dc605ed3b32c1b5fa685fb536b9b2", func := "tatting/tattingtop.TopSteps", spec := "topSteps", inPlace := ["internal/bytealg.Count", "internal/bytealg.IndexByte", "internal/bytealg.Index", "internal/bytealg.Compare", "sync/atomic.LoadUint32", "(*internal/sync.Mutex).Lock", "internal/race.Disable", "sync/atomic.CompareAndSwapInt32", "internal/race.Enable", "internal/race.Acquire", "(*internal/sync.Mutex).lockSlow", "internal/sync.runtime_canSpin", "internal/sync.runtime_doSpin", "internal/sync.throw", "internal/sync.runtime_nanotime", "internal/sync.runtime_SemacquireMutex", "sync/atomic.AddInt32", "(*internal/sync.Mutex).Unlock", "internal/race.ReleaseMerge", "(*internal/sync.Mutex).unlockSlow", "internal/sync.fatal", "internal/sync.runtime_Semrelease", "sync/atomic.StoreUint32", "math/bits.Add64", "math/bits.Sub64"], unfollowed := true, recurses := true, named := ["internal/bytealg.MaxLen"], apart := false, narrowed := true }
def TopStepsUptoSaid : Prop := topStepsUptoRow.holds Tryz.pinned (OpenSpec.upto topStepsSpec)

/-- 'tattingtop.TopRows', WHERE WHAT IT READS IS OF BULK AT MOST 1048576: true; the input reads as it did. -/
def topRowsUptoRow : OpenClaim := { program := "ytjkjanegankdhaagreat", sum := "6796f3850c5b8fd5f028f89b79ce06966f4dc605ed3b32c1b5fa685fb536b9b2", func := "tatting/tattingtop.TopRows", spec := "topRows", inPlace := ["internal/bytealg.Count", "internal/bytealg.IndexByte", "internal/bytealg.Index", "internal/bytealg.Compare", "sync/atomic.LoadUint32", "(*internal/sync.Mutex).Lock", "internal/race.Disable", "sync/atomic.CompareAndSwapInt32", "internal/race.Enable", "internal/race.Acquire", "(*internal/sync.Mutex).lockSlow", "internal/sync.runtime_canSpin", "internal/sync.runtime_doSpin", "internal/sync.throw", "internal/sync.runtime_nanotime", "internal/sync.runtime_SemacquireMutex", "sync/atomic.AddInt32", "(*internal/sync.Mutex).Unlock", "internal/race.ReleaseMerge", "(*internal/sync.Mutex).unlockSlow", "internal/sync.fatal", "internal/sync.runtime_Semrelease", "sync/atomic.StoreUint32", "math/bits.Add64", "math/bits.Sub64"], unfollowed := true, recurses := true, named := ["internal/bytealg.MaxLen"], apart := false, narrowed := true }
def TopRowsUptoSaid : Prop := topRowsUptoRow.holds Tryz.pinned (OpenSpec.upto topRowsSpec)

/-- 'tattingtop.TopWords', WHERE WHAT IT READS IS OF BULK AT MOST 1048576: true; the input reads as it did. -/
def topWordsUptoRow : OpenClaim := { program := "ytjkjanegankdhaagreat", sum := "6796f3850c5b8fd5f028f89b79ce06966f4dc605ed3b32c1b5fa685fb536b9b2", func := "tatting/tattingtop.TopWords", spec := "topWords", inPlace := ["internal/bytealg.Count", "internal/bytealg.IndexByte", "internal/bytealg.Index", "internal/bytealg.Compare", "sync/atomic.LoadUint32", "(*internal/sync.Mutex).Lock", "internal/race.Disable", "sync/atomic.CompareAndSwapInt32", "internal/race.Enable", "internal/race.Acquire", "(*internal/sync.Mutex).lockSlow", "internal/sync.runtime_canSpin", "internal/sync.runtime_doSpin", "internal/sync.throw", "internal/sync.runtime_nanotime", "internal/sync.runtime_SemacquireMutex", "sync/atomic.AddInt32", "(*internal/sync.Mutex).Unlock", "internal/race.ReleaseMerge", "(*internal/sync.Mutex).unlockSlow", "internal/sync.fatal", "internal/sync.runtime_Semrelease", "sync/atomic.StoreUint32", "math/bits.Add64", "math/bits.Sub64"], unfollowed := true, recurses := true, named := ["internal/bytealg.MaxLen"], apart := false, narrowed := true }
def TopWordsUptoSaid : Prop := topWordsUptoRow.holds Tryz.pinned (OpenSpec.upto topWordsSpec)

end Rows
end Go.Proofs.YtjkjanegankdhaaGreat
