/- Words of the printer, those that are used. -/
import Derived.Test.YtpdjdffimighkaaZWInv
import Derived.Test.YtpdjdffimighkaaZWFootNe
namespace Go.Proofs.YtpdjdffimighkaaW.PrintWords
open Go.RowKit
end Go.Proofs.YtpdjdffimighkaaW.PrintWords
namespace Go.Proofs.YtpdjdffimighkaaW.PrintLast
section
variable {ops : Array Oper} {a : Act} {o og : Oper} {g : Nat} {t : Tmp} {u : Bool}
end
end Go.Proofs.YtpdjdffimighkaaW.PrintLast
