/- Which of some operations are done, as a number. Conditions: none. -/
import Derived.Test.YtcjicfpdmegckaaWWords
namespace Go.Proofs.YtcjicfpdmegckaaW.PrintWords.Far
/-- which of n operations are done, as a number -/
def bm (n m : Nat) : Array Bool := ((List.range n).map fun i => m.testBit i).toArray
end Go.Proofs.YtcjicfpdmegckaaW.PrintWords.Far
