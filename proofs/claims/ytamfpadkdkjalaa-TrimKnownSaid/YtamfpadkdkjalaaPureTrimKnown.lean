/- What chapter 3 tells of alike lists, of one list within the other, of numbers that do not fit, at the values that the statement writes out: reckoned. -/
import Derived.Test.YtamfpadkdkjalaaPTrimKnownx4
import Derived.Test.YtamfpadkdkjalaaWSized
namespace Go.Proofs.Ytamfpadkdkjalaa.PrintWords
set_option linter.defProp false in
/-- The printed row names this lemma without the seat-wide namespace. -/
def sized_ints := @Go.Proofs.YtamfpadkdkjalaaW.PrintWords.sized_ints
end Go.Proofs.Ytamfpadkdkjalaa.PrintWords
namespace Go.Proofs.Ytamfpadkdkjalaa.Pure
open Go.RowKit Go.Proofs.Ytamfpadkdkjalaa.PTrimKnown Go.Proofs.YtamfpadkdkjalaaW.PrintWords Go.Proofs.YtamfpadkdkjalaaW.PrintLast Go.Proofs.YtamfpadkdkjalaaW.PrintMore
set_option linter.unusedVariables false
set_option linter.unusedSimpArgs false


theorem TrimKnown : tattinglaw3_TrimKnown.Pure := ⟨60, by decide +kernel⟩

end Go.Proofs.Ytamfpadkdkjalaa.Pure
