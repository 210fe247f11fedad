/- Squares: the statement TileLooks holds of every four numbers. -/
import Derived.Test.YtfldkfccdjdofaaPTileLooksx3
import Derived.Test.YtfldkfccdjdofaaWSized
namespace Go.Proofs.Ytfldkfccdjdofaa.PrintWords
set_option linter.defProp false in
/-- The printed row names this lemma without the seat-wide namespace. -/
def sized_ints := @Go.Proofs.YtfldkfccdjdofaaW.PrintWords.sized_ints
end Go.Proofs.Ytfldkfccdjdofaa.PrintWords
namespace Go.Proofs.Ytfldkfccdjdofaa.Pure
open Go.RowKit Go.Proofs.Ytfldkfccdjdofaa.PTileLooks Go.Proofs.YtfldkfccdjdofaaW.PrintWords Go.Proofs.YtfldkfccdjdofaaW.PrintLast Go.Proofs.YtfldkfccdjdofaaW.PrintMore
set_option linter.unusedVariables false
set_option linter.unusedSimpArgs false

theorem wf_u8 {x : Int} (h : (Lit.int .u8 x).wf = true) : 0 ≤ x ∧ x < 256 := by
  simp [Lit.wf, IntKind.min, IntKind.max, IntKind.signed, IntKind.bits] at h
  omega
theorem wf_u16 {x : Int} (h : (Lit.int .u16 x).wf = true) : 0 ≤ x ∧ x < 65536 := by
  simp [Lit.wf, IntKind.min, IntKind.max, IntKind.signed, IntKind.bits] at h
  omega

theorem TileLooks : tattinglaw13_TileLooks.Pure := by
  intro a0 a1 a2 a3 h0 h1 h2 h3
  rfl

end Go.Proofs.Ytfldkfccdjdofaa.Pure
