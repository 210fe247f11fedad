/- Squares: the statement TileMore holds of every five numbers of their kinds. -/
import Derived.Test.YtfldkfccdjdofaaPTileMorex1
import Derived.Test.YtfldkfccdjdofaaWSized
namespace Go.Proofs.Ytfldkfccdjdofaa.PrintWords
set_option linter.defProp false in
/-- The printed row names this lemma without the seat-wide namespace. -/
def sized_ints := @Go.Proofs.YtfldkfccdjdofaaW.PrintWords.sized_ints
end Go.Proofs.Ytfldkfccdjdofaa.PrintWords
namespace Go.Proofs.Ytfldkfccdjdofaa.Pure
open Go.RowKit Go.Proofs.Ytfldkfccdjdofaa.PTileMore Go.Proofs.YtfldkfccdjdofaaW.PrintWords Go.Proofs.YtfldkfccdjdofaaW.PrintLast Go.Proofs.YtfldkfccdjdofaaW.PrintMore
set_option linter.unusedVariables false
set_option linter.unusedSimpArgs false

theorem wf_u8 {x : Int} (h : (Lit.int .u8 x).wf = true) : 0 ≤ x ∧ x < 256 := by
  simp [Lit.wf, IntKind.min, IntKind.max, IntKind.signed, IntKind.bits] at h
  omega
theorem wf_u16 {x : Int} (h : (Lit.int .u16 x).wf = true) : 0 ≤ x ∧ x < 65536 := by
  simp [Lit.wf, IntKind.min, IntKind.max, IntKind.signed, IntKind.bits] at h
  omega

theorem TileMore : tattinglaw13_TileMore.Pure := by
  intro a0 a1 a2 a3 a4 h0 h1 h2 h3 h4
  unfold tattinglaw13_TileMore.f
  exact if_pos ⟨wf_u8 h0, wf_u16 h1, wf_u16 h2, wf_u16 h3, wf_u8 h4⟩

end Go.Proofs.Ytfldkfccdjdofaa.Pure
