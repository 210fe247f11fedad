/- Squares put together: the statement RussLen holds of every byte and every two lists. -/
import Derived.Test.YtpdjdffimighkaaZPRussLenx4
import Derived.Test.YtpdjdffimighkaaZWSized
namespace Go.Proofs.Ytpdjdffimighkaa.PrintWords
end Go.Proofs.Ytpdjdffimighkaa.PrintWords
namespace Go.Proofs.Ytpdjdffimighkaa.Pure
open Go.RowKit Go.Proofs.Ytpdjdffimighkaa.PRussLen Go.Proofs.YtpdjdffimighkaaW.PrintWords Go.Proofs.YtpdjdffimighkaaW.PrintLast Go.Proofs.YtpdjdffimighkaaW.PrintMore
set_option linter.unusedVariables false
set_option linter.unusedSimpArgs false
theorem wf_u8 {x : Int} (h : (Lit.int .u8 x).wf = true) : 0 ≤ x ∧ x < 256 := by
  simp [Lit.wf, IntKind.min, IntKind.max, IntKind.signed, IntKind.bits] at h
  omega
theorem RussLen : tattinglaw14_RussLen.Pure := by
  intro a0 l1 l2 h0 _ _ _ _ _ _
  unfold tattinglaw14_RussLen.f
  exact if_pos (wf_u8 h0)
end Go.Proofs.Ytpdjdffimighkaa.Pure
