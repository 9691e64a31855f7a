/- What the document's Seal computes: for every row of bytes. -/
import Derived.Test.YtcjicfpdmegckaaYx3
import Derived.Test.YtcjicfpdmegckaaYRefCrc
import Derived.Test.YtcjicfpdmegckaaYRefPut
namespace Go.Proofs.Ytcjicfpdmegckaa.Y
open Go.RowKit Go.Proofs.YtcjicfpdmegckaaW.PrintWords Go.Proofs.YtcjicfpdmegckaaW.PrintLast Go.Proofs.YtcjicfpdmegckaaW.PrintMore Go.Proofs.Ytcjicfpdmegckaa.Num Go.Proofs.Ytcjicfpdmegckaa.CrcN

theorem refseal_eq (l : List Int) (h : Bytes l) (hl : l.length < 140737488355000) (k : Nat) (hk : 10 * l.length + 9 < k) : scullerref02_Seal.f k l = some (l ++ ints (four (sumN (nats l)))) := by
  have ht := sumN_lt (nats l) (nats_lt h)
  unfold scullerref02_Seal.f
  rw [if_pos (by simpa using (by omega : l.length < 140737488355328)), Option.bind_some, refsum_eq l h (by omega) k (by omega), Option.bind_some, u64id (by omega) (by omega), ref_put_eq k (by omega) _ _ (by omega) (by omega), Option.bind_some, asked4, four_put, List.nil_append,
    if_pos (by rw [ints_length]; simp [four]; omega)]
end Go.Proofs.Ytcjicfpdmegckaa.Y
