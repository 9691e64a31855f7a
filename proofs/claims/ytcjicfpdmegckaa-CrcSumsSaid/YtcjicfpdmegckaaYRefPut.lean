/- What the document's Put computes: the bytes of a number, the least first. Conditions: those of a uint64. -/
import Derived.Test.YtcjicfpdmegckaaYx3
import Derived.Test.YtcjicfpdmegckaaYPutGet
namespace Go.Proofs.Ytcjicfpdmegckaa.Y
open Go.RowKit Go.Proofs.YtcjicfpdmegckaaW.PrintWords Go.Proofs.YtcjicfpdmegckaaW.PrintLast Go.Proofs.YtcjicfpdmegckaaW.PrintMore Go.Proofs.Ytcjicfpdmegckaa.Num

theorem ref_put_l0 (n : Int) (hn : 0 ≤ n) (hn2 : n ≤ 18446744073709551615) (s : Int) (d : Nat) : ∀ (k i : Nat), i + d = asked s → d < k → i ≤ asked s →
    scullerref01_Put.l0 k (n / 256 ^ i) s (putL n i) (i : Int) = some (putL n (asked s)) := by
  have h8 := asked_le s
  induction d with
  | zero =>
    intro k i hi hk _
    obtain ⟨k, rfl⟩ : ∃ j, k = j + 1 := ⟨k - 1, by omega⟩
    obtain rfl : i = asked s := by omega
    simp only [scullerref01_Put.l0]
    by_cases hs : ((asked s : Nat) : Int) < s
    · rw [if_pos hs, if_neg]
      unfold asked mx mn at hs ⊢
      (repeat' split at hs) <;> (repeat' split) <;> omega
    · rw [if_neg hs]
  | succ d ih =>
    intro k i hi hk _
    obtain ⟨k, rfl⟩ : ∃ j, k = j + 1 := ⟨k - 1, by omega⟩
    simp only [scullerref01_Put.l0]
    have hs : (i : Int) < s := by unfold asked mx mn at hi; (repeat' split at hi) <;> omega
    have q0 : 0 ≤ n / 256 ^ i := Int.ediv_nonneg hn (Int.le_of_lt (Int.pow_pos (by decide)))
    have q1 : n / 256 ^ i ≤ n := Int.ediv_le_self _ hn
    rw [if_pos hs, if_pos (by omega), if_pos (by rw [putL_length]; omega), tdivn q0, tmodn q0, u64id (Int.ediv_nonneg q0 (by omega)) (by omega), ← div256, w64 (x := (i : Int) + 1) (by omega) (by omega)]
    rw [show n / 256 ^ i % 256 % 256 = n / 256 ^ i % 256 by omega]
    exact ih k (i + 1) (by omega) (by omega) (by omega)
theorem ref_put_eq (k : Nat) (hk : 8 < k) (n s : Int) (hn : 0 ≤ n) (hn2 : n ≤ 18446744073709551615) : scullerref01_Put.f k n s = some (putL n (asked s)) := by
  unfold scullerref01_Put.f
  have h8 := asked_le s
  have := ref_put_l0 n hn hn2 s (asked s) k 0 (by omega) (by omega) (by omega)
  simpa [putL] using this
end Go.Proofs.Ytcjicfpdmegckaa.Y
