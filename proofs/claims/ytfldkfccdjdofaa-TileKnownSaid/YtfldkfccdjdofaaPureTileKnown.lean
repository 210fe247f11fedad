/- What chapter 13 says of sides that may not be, of what is outside: true. -/
import Derived.Test.YtfldkfccdjdofaaPTileKnownx1
import Derived.Test.YtfldkfccdjdofaaWSized
namespace Go.Proofs.Ytfldkfccdjdofaa.PrintWords
set_option linter.defProp false in
/-- The printed row names this lemma without the seat-wide namespace. -/
def sized_ints := @Go.Proofs.YtfldkfccdjdofaaW.PrintWords.sized_ints
end Go.Proofs.Ytfldkfccdjdofaa.PrintWords
namespace Go.Proofs.Ytfldkfccdjdofaa.Pure
open Go.RowKit Go.Proofs.Ytfldkfccdjdofaa.PTileKnown Go.Proofs.YtfldkfccdjdofaaW.PrintWords Go.Proofs.YtfldkfccdjdofaaW.PrintLast Go.Proofs.YtfldkfccdjdofaaW.PrintMore
set_option linter.unusedVariables false
set_option linter.unusedSimpArgs false

theorem wf_u8 {x : Int} (h : (Lit.int .u8 x).wf = true) : 0 ≤ x ∧ x < 256 := by
  simp [Lit.wf, IntKind.min, IntKind.max, IntKind.signed, IntKind.bits] at h
  omega
theorem wf_u16 {x : Int} (h : (Lit.int .u16 x).wf = true) : 0 ≤ x ∧ x < 65536 := by
  simp [Lit.wf, IntKind.min, IntKind.max, IntKind.signed, IntKind.bits] at h
  omega

theorem TileKnown : tattinglaw13_TileKnown.Pure := rfl

end Go.Proofs.Ytfldkfccdjdofaa.Pure
