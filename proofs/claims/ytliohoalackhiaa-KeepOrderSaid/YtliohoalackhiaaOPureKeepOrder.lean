/- KeepOrder: of steps that are kept a later one counts; what was cleared, and kept so, is gone: for every place, bytes and choices. Conditions: none. -/
import Derived.Test.YtliohoalackhiaaOEx3
namespace Go.Proofs.Ytliohoalackhiaa.Pure
open Go.RowKit Go.Proofs.Ytliohoalackhiaa.E Go.Proofs.YtliohoalackhiaaW.PrintWords Go.Proofs.YtliohoalackhiaaW.PrintLast Go.Proofs.YtliohoalackhiaaW.PrintMore
theorem KeepOrder : scullerlaw15_KeepOrder.Pure := by
  intro a0 a1 a2 a3 a4 a5 h0 h1 h2
  unfold scullerlaw15_KeepOrder.f
  rw [if_pos ⟨h0, h1, h2⟩]
end Go.Proofs.Ytliohoalackhiaa.Pure
