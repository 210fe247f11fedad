/- By squares of every side the path that is led back is a good list, as long as may be, and each square is counted: RussRuns holds of every byte and every two lists. -/
import Derived.Test.YtpdjdffimighkaaZPRussRunsx4
import Derived.Test.YtpdjdffimighkaaZWSized
namespace Go.Proofs.Ytpdjdffimighkaa.PrintWords
end Go.Proofs.Ytpdjdffimighkaa.PrintWords
namespace Go.Proofs.Ytpdjdffimighkaa.Pure
open Go.RowKit Go.Proofs.Ytpdjdffimighkaa.PRussRuns Go.Proofs.YtpdjdffimighkaaW.PrintWords Go.Proofs.YtpdjdffimighkaaW.PrintLast Go.Proofs.YtpdjdffimighkaaW.PrintMore
set_option linter.unusedVariables false
set_option linter.unusedSimpArgs false
theorem wf_u8 {x : Int} (h : (Lit.int .u8 x).wf = true) : 0 ≤ x ∧ x < 256 := by
  simp [Lit.wf, IntKind.min, IntKind.max, IntKind.signed, IntKind.bits] at h
  omega
theorem RussRuns : tattinglaw14_RussRuns.Pure := by
  intro a0 l1 l2 h0 _ _ _ _ _ _
  unfold tattinglaw14_RussRuns.f
  exact if_pos (wf_u8 h0)
end Go.Proofs.Ytpdjdffimighkaa.Pure
