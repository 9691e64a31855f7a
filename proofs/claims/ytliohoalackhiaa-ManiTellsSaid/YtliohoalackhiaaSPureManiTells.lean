/- ManiTells: a manifest is told apart by its session, by any one byte of the arena, and by where its segments end: for every session, choices and place. Conditions: none. -/
import Derived.Test.YtliohoalackhiaaSKx10
namespace Go.Proofs.Ytliohoalackhiaa.Pure
open Go.RowKit Go.Proofs.Ytliohoalackhiaa.K Go.Proofs.YtliohoalackhiaaW.PrintWords Go.Proofs.YtliohoalackhiaaW.PrintLast Go.Proofs.YtliohoalackhiaaW.PrintMore
theorem ManiTells : scullerlaw12_ManiTells.Pure := by
  intro a0 l1 a2 a3 a4 a5 a6 a7 h0 hl hl2 h1 h2 h3 h4 h5 h6 h7
  unfold scullerlaw12_ManiTells.f
  rw [if_pos ⟨h0, h1, h2, h3, h4, h5, h6, h7⟩]
end Go.Proofs.Ytliohoalackhiaa.Pure
