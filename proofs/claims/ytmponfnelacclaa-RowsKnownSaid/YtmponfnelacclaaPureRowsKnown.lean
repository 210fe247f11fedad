/- What chapter 10 tells of rows that do not fit, of sums that are alike, at the values that the statement writes out: reckoned. -/
import Derived.Test.YtmponfnelacclaaPRowsKnownx3
import Derived.Test.YtmponfnelacclaaWSized
namespace Go.Proofs.Ytmponfnelacclaa.PrintWords
set_option linter.defProp false in
/-- The printed row names this lemma without the seat-wide namespace. -/
def sized_ints := @Go.Proofs.YtmponfnelacclaaW.PrintWords.sized_ints
end Go.Proofs.Ytmponfnelacclaa.PrintWords
namespace Go.Proofs.Ytmponfnelacclaa.Pure
open Go.RowKit Go.Proofs.Ytmponfnelacclaa.PRowsKnown Go.Proofs.YtmponfnelacclaaW.PrintWords Go.Proofs.YtmponfnelacclaaW.PrintLast Go.Proofs.YtmponfnelacclaaW.PrintMore
set_option linter.unusedVariables false
set_option linter.unusedSimpArgs false


theorem RowsKnown : tattinglaw10_RowsKnown.Pure := ⟨60, by decide +kernel⟩

end Go.Proofs.Ytmponfnelacclaa.Pure
