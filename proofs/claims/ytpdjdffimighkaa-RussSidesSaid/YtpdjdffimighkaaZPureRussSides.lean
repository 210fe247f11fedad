/- By all three sides both lists, exchanged or not, have the same longest list, and greater squares are no more: RussSides holds of every two lists. -/
import Derived.Test.YtpdjdffimighkaaZPRussSidesx2
import Derived.Test.YtpdjdffimighkaaZWSized
namespace Go.Proofs.Ytpdjdffimighkaa.PrintWords
end Go.Proofs.Ytpdjdffimighkaa.PrintWords
namespace Go.Proofs.Ytpdjdffimighkaa.Pure
open Go.RowKit Go.Proofs.Ytpdjdffimighkaa.PRussSides Go.Proofs.YtpdjdffimighkaaW.PrintWords Go.Proofs.YtpdjdffimighkaaW.PrintLast Go.Proofs.YtpdjdffimighkaaW.PrintMore
set_option linter.unusedVariables false
set_option linter.unusedSimpArgs false
theorem wf_u8 {x : Int} (h : (Lit.int .u8 x).wf = true) : 0 ≤ x ∧ x < 256 := by
  simp [Lit.wf, IntKind.min, IntKind.max, IntKind.signed, IntKind.bits] at h
  omega
theorem RussSides : tattinglaw14_RussSides.Pure := by
  intro l0 l1 _ _ _ _ _ _
  rfl
end Go.Proofs.Ytpdjdffimighkaa.Pure
