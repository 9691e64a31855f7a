/- KeepToken: a token lasts as chunks do; one that may not be is not saved; what is cleared has none: for every session and choices. Conditions: none. -/
import Derived.Test.YtliohoalackhiaaHTx17
namespace Go.Proofs.Ytliohoalackhiaa.Pure
open Go.RowKit Go.Proofs.Ytliohoalackhiaa.T Go.Proofs.YtliohoalackhiaaW.PrintWords Go.Proofs.YtliohoalackhiaaW.PrintLast Go.Proofs.YtliohoalackhiaaW.PrintMore
theorem KeepToken : scullerlaw15_KeepToken.Pure := by
  intro a0 l1 a2 a3 a4 h0 hm hl hw h2
  unfold scullerlaw15_KeepToken.f
  rw [if_pos ⟨h0, by omega, hw, h2⟩]
end Go.Proofs.Ytliohoalackhiaa.Pure
