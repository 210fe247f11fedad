/- What chapter 12 tells of rows that are none, of places outside, of what is not 0 or 1, at the values that the statement writes out: reckoned. -/
import Derived.Test.YtjplieecdfbbjaaPDeltaKnownx2
import Derived.Test.YtjplieecdfbbjaaWSized
namespace Go.Proofs.Ytjplieecdfbbjaa.PrintWords
set_option linter.defProp false in
/-- The printed row names this lemma without the seat-wide namespace. -/
def sized_ints := @Go.Proofs.YtjplieecdfbbjaaW.PrintWords.sized_ints
end Go.Proofs.Ytjplieecdfbbjaa.PrintWords
namespace Go.Proofs.Ytjplieecdfbbjaa.Pure
open Go.RowKit Go.Proofs.Ytjplieecdfbbjaa.PDeltaKnown Go.Proofs.YtjplieecdfbbjaaW.PrintWords Go.Proofs.YtjplieecdfbbjaaW.PrintLast Go.Proofs.YtjplieecdfbbjaaW.PrintMore
set_option linter.unusedVariables false
set_option linter.unusedSimpArgs false


theorem DeltaKnown : tattinglaw12_DeltaKnown.Pure := ⟨60, by decide +kernel⟩

end Go.Proofs.Ytjplieecdfbbjaa.Pure
