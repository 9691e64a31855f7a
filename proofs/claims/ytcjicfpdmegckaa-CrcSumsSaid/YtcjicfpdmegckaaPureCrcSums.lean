/- CrcSums: Step, Table, More, Sum, Seal and Right are what the chapter says: for every number, row of bytes and byte. Conditions: none. -/
import Derived.Test.YtcjicfpdmegckaaYx6
namespace Go.Proofs.Ytcjicfpdmegckaa.Pure
open Go.RowKit Go.Proofs.Ytcjicfpdmegckaa.Y Go.Proofs.YtcjicfpdmegckaaW.PrintWords Go.Proofs.YtcjicfpdmegckaaW.PrintLast Go.Proofs.YtcjicfpdmegckaaW.PrintMore

theorem CrcSums : scullerlaw02_CrcSums.Pure := by
  intro n l1 k hn b1 b2 b3 hk
  unfold scullerlaw02_CrcSums.f
  rw [if_pos ⟨hn, b3, hk⟩]
end Go.Proofs.Ytcjicfpdmegckaa.Pure
