/- What chapter 14 says of no squares, of nothing: RussKnown holds. -/
import Derived.Test.YtpdjdffimighkaaZPRussKnownx2
import Derived.Test.YtpdjdffimighkaaZWSized
namespace Go.Proofs.Ytpdjdffimighkaa.PrintWords
end Go.Proofs.Ytpdjdffimighkaa.PrintWords
namespace Go.Proofs.Ytpdjdffimighkaa.Pure
open Go.RowKit Go.Proofs.Ytpdjdffimighkaa.PRussKnown Go.Proofs.YtpdjdffimighkaaW.PrintWords Go.Proofs.YtpdjdffimighkaaW.PrintLast Go.Proofs.YtpdjdffimighkaaW.PrintMore
set_option linter.unusedVariables false
set_option linter.unusedSimpArgs false
theorem wf_u8 {x : Int} (h : (Lit.int .u8 x).wf = true) : 0 ≤ x ∧ x < 256 := by
  simp [Lit.wf, IntKind.min, IntKind.max, IntKind.signed, IntKind.bits] at h
  omega
theorem RussKnown : tattinglaw14_RussKnown.Pure := rfl
end Go.Proofs.Ytpdjdffimighkaa.Pure
