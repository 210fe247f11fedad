/- What chapter 4 tells of numbers that do not fit, of what is not there, at the values that the statement writes out: reckoned. -/
import Derived.Test.YtclddnajmcngcaaPOccurKnownx2
import Derived.Test.YtclddnajmcngcaaWSized
namespace Go.Proofs.Ytclddnajmcngcaa.PrintWords
set_option linter.defProp false in
/-- The printed row names this lemma without the seat-wide namespace. -/
def sized_ints := @Go.Proofs.YtclddnajmcngcaaW.PrintWords.sized_ints
end Go.Proofs.Ytclddnajmcngcaa.PrintWords
namespace Go.Proofs.Ytclddnajmcngcaa.Pure
open Go.RowKit Go.Proofs.Ytclddnajmcngcaa.POccurKnown Go.Proofs.YtclddnajmcngcaaW.PrintWords Go.Proofs.YtclddnajmcngcaaW.PrintLast Go.Proofs.YtclddnajmcngcaaW.PrintMore
set_option linter.unusedVariables false
set_option linter.unusedSimpArgs false


theorem OccurKnown : tattinglaw4_OccurKnown.Pure := ⟨60, by decide +kernel⟩

end Go.Proofs.Ytclddnajmcngcaa.Pure
