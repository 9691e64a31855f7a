/- What word.Put lays are bytes. Conditions: none. -/
import Derived.Test.YtcjicfpdmegckaaYPut
import Derived.Test.YtcjicfpdmegckaaYStr
namespace Go.Proofs.Ytcjicfpdmegckaa.Y
open Go.RowKit Go.Proofs.YtcjicfpdmegckaaW.PrintWords Go.Proofs.YtcjicfpdmegckaaW.PrintLast Go.Proofs.YtcjicfpdmegckaaW.PrintMore Go.Proofs.Ytcjicfpdmegckaa.Num

theorem putL_bytes (n : Int) (m : Nat) : Bytes (putL n m) := by
  induction m with
  | zero => intro x hx; simp [putL] at hx
  | succ m ih =>
    intro x hx
    simp only [putL, List.mem_append, List.mem_singleton] at hx
    rcases hx with hx | rfl
    · exact ih x hx
    · omega
end Go.Proofs.Ytcjicfpdmegckaa.Y
