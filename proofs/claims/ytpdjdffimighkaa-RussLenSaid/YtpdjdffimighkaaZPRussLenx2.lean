/- Words of the printer, those that are used. -/
import Derived.Test.YtpdjdffimighkaaZPRussLenx0
namespace Go.Proofs.Ytpdjdffimighkaa.PRussLen
open Go.RowKit Go.Proofs.YtpdjdffimighkaaW.PrintWords Go.Proofs.YtpdjdffimighkaaW.PrintLast Go.Proofs.YtpdjdffimighkaaW.PrintMore
attribute [local go_sem] max2_int min2_int max_two min_two max_three min_three max_four min_four   -- for this text's walks alone
set_option linter.unusedVariables false
set_option linter.unusedSimpArgs false
end Go.Proofs.Ytpdjdffimighkaa.PRussLen
