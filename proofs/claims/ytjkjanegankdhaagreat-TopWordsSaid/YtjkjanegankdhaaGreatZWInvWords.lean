/- Words of the printer, those that are used. -/
import Derived.Test.YtjkjanegankdhaaGreatZWInv
import Derived.Test.YtjkjanegankdhaaGreatZWFootNe
namespace Go.Proofs.YtjkjanegankdhaaGreatW.PrintWords
open Go.RowKit
end Go.Proofs.YtjkjanegankdhaaGreatW.PrintWords
namespace Go.Proofs.YtjkjanegankdhaaGreatW.PrintLast
section
variable {ops : Array Oper} {a : Act} {o og : Oper} {g : Nat} {t : Tmp} {u : Bool}
end
end Go.Proofs.YtjkjanegankdhaaGreatW.PrintLast
