/- CrcSplit: in whatever pieces bytes come, their sum is the same; a table that is spoilt is no other one's: for every two rows of bytes. Conditions: none. -/
import Derived.Test.YtcjicfpdmegckaaZx4
namespace Go.Proofs.Ytcjicfpdmegckaa.Pure
open Go.RowKit Go.Proofs.Ytcjicfpdmegckaa.Z Go.Proofs.YtcjicfpdmegckaaW.PrintWords Go.Proofs.YtcjicfpdmegckaaW.PrintLast Go.Proofs.YtcjicfpdmegckaaW.PrintMore

theorem CrcSplit : scullerlaw02_CrcSplit.Pure := by
  intro l0 l1 k a1 a2 a3 b1 b2 b3 hk
  unfold scullerlaw02_CrcSplit.f
  rw [if_pos ⟨⟨by omega, by omega⟩, a3, b3, hk⟩]
end Go.Proofs.Ytcjicfpdmegckaa.Pure
