/- Words of the printer, those that are used. -/
import Derived.Test.YtpdjdffimighkaaProg
import Derived.Below
import Derived.Deep.Draws
import Derived.Deep.AppendLies
import Derived.Maps.AppendAt
import Derived.OwnWalk
import Derived.Laws.BytesArg
import Derived.Laws.MakeOwn
import Derived.Laws.OwnMore
import Derived.Deep.OwnRows
import Derived.Tactics
import Derived.Lib.ConvBytes
import Derived.Laws.Slices
import Derived.WalkKit
import Derived.KernelRfl
import Derived.RowKit3
import Derived.Deep.LoopGhost
import Derived.Deep.QuietTactic
import Derived.BigQuiet
import Derived.WideLaws
import Derived.Deep.DeepCutAuto
import Derived.Deep.CutBlock
import Derived.Deep.RegionHeld3
import Derived.Laws.Rows
import Derived.Lib.AppendStr
import Derived.ArgAppend
import Derived.Laws.IdiomCopy
import Derived.OrdersHeld
import Derived.Laws.BitsLemmas
import Derived.RowKit
import Derived.Test.YtpdjdffimighkaaZWWords
import Derived.Test.YtpdjdffimighkaaZWLast
import Derived.Test.YtpdjdffimighkaaZWTab
import Derived.Test.YtpdjdffimighkaaZWFour
import Derived.Test.YtpdjdffimighkaaZWQPut
import Derived.Test.YtpdjdffimighkaaZWApart
import Derived.Test.YtpdjdffimighkaaZWArr
import Derived.Test.YtpdjdffimighkaaZWZeros
import Derived.Test.YtpdjdffimighkaaZWFoot
import Derived.Test.YtpdjdffimighkaaZWKept
import Derived.Test.YtpdjdffimighkaaZWShare
import Derived.Test.YtpdjdffimighkaaZWN
import Derived.Test.YtpdjdffimighkaaZWFootNe
import Derived.Test.YtpdjdffimighkaaZWAt
import Derived.Test.YtpdjdffimighkaaZWEqStruct
import Derived.Test.YtpdjdffimighkaaZWRepsOne
import Derived.Test.YtpdjdffimighkaaZWInv
import Derived.Test.YtpdjdffimighkaaZWInvWords
import Derived.Test.YtpdjdffimighkaaZWGuard
import Derived.Test.YtpdjdffimighkaaZWNEv
import Derived.Test.YtpdjdffimighkaaZWMore
namespace Go.Proofs.Ytpdjdffimighkaa.PRussSides
open Go.RowKit Go.Proofs.YtpdjdffimighkaaW.PrintWords Go.Proofs.YtpdjdffimighkaaW.PrintLast Go.Proofs.YtpdjdffimighkaaW.PrintMore
attribute [local go_sem] max2_int min2_int max_two min_two max_three min_three max_four min_four   -- for this text's walks alone
set_option linter.unusedVariables false
set_option linter.unusedSimpArgs false
def errW : Option Int → Value
  | none => .nilIface
  | some c => .iface 0 (.int .i64 c)
theorem errW_none : errW none = .nilIface := rfl
theorem errW_some (c : Int) : errW (some c) = .iface 0 (.int .i64 c) := rfl
theorem info3 : (Try.prog.info? 3).map (fun i => (i.zero, i.size, i.bytes)) = some (some (.int .i64 0), 1, 8) := by kernel_rfl
-- the values' own types
/-! #### struct type 49 -/
end Go.Proofs.Ytpdjdffimighkaa.PRussSides
