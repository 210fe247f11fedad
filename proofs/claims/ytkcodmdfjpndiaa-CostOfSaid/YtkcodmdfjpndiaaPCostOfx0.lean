-- Laid by wip/myprint.py: the kit's print, with contracts typed by hand for what it does not take.
import Derived.Test.YtkcodmdfjpndiaaProg
import Derived.Below
import Derived.Deep.Draws
import Derived.Deep.AppendLies
import Derived.Maps.AppendAt
import Derived.OwnWalk
import Derived.Laws.BytesArg
import Derived.Laws.MakeOwn
import Derived.Laws.OwnMore
import Derived.Deep.OwnRows
import Derived.Tactics
import Derived.Lib.ConvBytes
import Derived.Laws.Slices
import Derived.WalkKit
import Derived.KernelRfl
import Derived.RowKit3
import Derived.Deep.LoopGhost
import Derived.Deep.QuietTactic
import Derived.BigQuiet
import Derived.WideLaws
import Derived.Deep.DeepCutAuto
import Derived.Deep.CutBlock
import Derived.Deep.RegionHeld3
import Derived.Laws.Rows
import Derived.Lib.AppendStr
import Derived.ArgAppend
import Derived.Laws.IdiomCopy
import Derived.OrdersHeld
import Derived.Laws.BitsLemmas
import Derived.RowKit
import Derived.Test.YtkcodmdfjpndiaaWWords
import Derived.Test.YtkcodmdfjpndiaaWLast
import Derived.Test.YtkcodmdfjpndiaaWTab
import Derived.Test.YtkcodmdfjpndiaaWFour
import Derived.Test.YtkcodmdfjpndiaaWQPut
import Derived.Test.YtkcodmdfjpndiaaWApart
import Derived.Test.YtkcodmdfjpndiaaWArr
import Derived.Test.YtkcodmdfjpndiaaWZeros
import Derived.Test.YtkcodmdfjpndiaaWFoot
import Derived.Test.YtkcodmdfjpndiaaWKept
import Derived.Test.YtkcodmdfjpndiaaWShare
import Derived.Test.YtkcodmdfjpndiaaWN
import Derived.Test.YtkcodmdfjpndiaaWFootNe
import Derived.Test.YtkcodmdfjpndiaaWAt
import Derived.Test.YtkcodmdfjpndiaaWEqStruct
import Derived.Test.YtkcodmdfjpndiaaWRepsOne
import Derived.Test.YtkcodmdfjpndiaaWInv
import Derived.Test.YtkcodmdfjpndiaaWInvWords
import Derived.Test.YtkcodmdfjpndiaaWGuard
import Derived.Test.YtkcodmdfjpndiaaWNEv
import Derived.Test.YtkcodmdfjpndiaaWMore
namespace Go.Proofs.Ytkcodmdfjpndiaa.PCostOf
open Go.RowKit Go.Proofs.YtkcodmdfjpndiaaW.PrintWords Go.Proofs.YtkcodmdfjpndiaaW.PrintLast Go.Proofs.YtkcodmdfjpndiaaW.PrintMore
attribute [local go_sem] max2_int min2_int max_two min_two max_three min_three max_four min_four   -- for this text's walks alone
set_option linter.unusedVariables false
set_option linter.unusedSimpArgs false



def errW : Option Int → Value
  | none => .nilIface
  | some c => .iface 0 (.int .i64 c)
theorem errW_none : errW none = .nilIface := rfl
theorem errW_some (c : Int) : errW (some c) = .iface 0 (.int .i64 c) := rfl

theorem info3 : (Try.prog.info? 3).map (fun i => (i.zero, i.size, i.bytes)) = some (some (.int .i64 0), 1, 8) := by kernel_rfl
-- the values' own types

end Go.Proofs.Ytkcodmdfjpndiaa.PCostOf
