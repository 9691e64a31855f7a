/- What word.Put computes: the lowest bytes of a number, the least first. Conditions: none. -/
import Derived.Test.YtcjicfpdmegckaaYx1
import Derived.Test.YtcjicfpdmegckaaNum
namespace Go.Proofs.Ytcjicfpdmegckaa.Y
open Go.RowKit Go.Proofs.YtcjicfpdmegckaaW.PrintWords Go.Proofs.YtcjicfpdmegckaaW.PrintLast Go.Proofs.YtcjicfpdmegckaaW.PrintMore Go.Proofs.Ytcjicfpdmegckaa.Num

/-- the lowest m bytes of a number, the least first -/
def putL (n : Int) : Nat → List Int
  | 0 => []
  | m + 1 => putL n m ++ [n / 256 ^ m % 256]
theorem putL_length (n : Int) (m : Nat) : (putL n m).length = m := by
  induction m with
  | zero => rfl
  | succ m ih => simp [putL, ih]
/-- how many bytes are asked for -/
def asked (s : Int) : Nat := (mx 0 (mn s 8)).toNat
theorem asked_le (s : Int) : asked s ≤ 8 := by unfold asked mx mn; (repeat' split) <;> omega
theorem asked_nat {m : Nat} (h : m ≤ 8) : asked m = m := by unfold asked mx mn; (repeat' split) <;> omega
theorem pow256 (m : Nat) : (256 : Int) ^ m = 2 ^ (8 * m) := by rw [Int.pow_mul]; rfl
theorem shr8 (n : Int) (i : Nat) (h : i ≤ 8) : shr .u64 n (wrap64 (8 * (i : Int))) = n / 256 ^ i := by
  rw [w64 (by omega) (by omega)]
  unfold shr
  have : min (8 * (i : Int)).toNat IntKind.u64.bits = 8 * i := by simp [IntKind.bits]; omega
  rw [this, pow256]
theorem set_mid (xs ys : List Int) (a v : Int) : (xs ++ a :: ys).set xs.length v = xs ++ v :: ys := by
  induction xs with
  | nil => rfl
  | cons x xs ih => simp [ih]

theorem put_l0 (n : Int) (m : Nat) (hm : m ≤ 8) (d : Nat) : ∀ (k i : Nat), i + d = m → d < k → word_Put.l0 k n (putL n i ++ List.replicate d 0) (m : Int) (i : Int) = some (putL n m) := by
  induction d with
  | zero =>
    intro k i hi hk
    obtain ⟨k, rfl⟩ : ∃ j, k = j + 1 := ⟨k - 1, by omega⟩
    obtain rfl : i = m := by omega
    simp only [word_Put.l0]
    rw [if_neg (by omega)]
    simp
  | succ d ih =>
    intro k i hi hk
    obtain ⟨k, rfl⟩ : ∃ j, k = j + 1 := ⟨k - 1, by omega⟩
    simp only [word_Put.l0]
    rw [if_pos (by omega), shr8 n i (by omega), w64 (x := 8 * (i : Int)) (by omega) (by omega), if_pos (by omega), if_pos (by omega), if_pos (by simp [putL_length]; omega)]
    rw [w64 (x := (i : Int) + 1) (by omega) (by omega)]
    have e : (putL n i ++ List.replicate (d + 1) 0).set (i : Int).toNat (n / 256 ^ i % 256) = putL n (i + 1) ++ List.replicate d 0 := by
      have := set_mid (putL n i) (List.replicate d 0) 0 (n / 256 ^ i % 256)
      rw [putL_length] at this
      rw [Int.toNat_natCast, List.replicate_succ, this]
      simp [putL]
    rw [e]
    exact ih k (i + 1) (by omega) (by omega)
theorem put_eq (k : Nat) (hk : 8 < k) (n s : Int) : word_Put.f k n s = some (putL n (asked s)) := by
  unfold word_Put.f
  have h0 : 0 ≤ mx 0 (mn s 8) := by unfold mx; split <;> omega
  have h8 := asked_le s
  rw [if_pos h0, if_pos (by unfold asked at h8; omega)]
  have := put_l0 n (asked s) h8 (asked s) k 0 (by omega) (by omega)
  simp only [Option.bind_some, putL, List.nil_append] at this ⊢
  unfold asked at this ⊢
  simpa using this

end Go.Proofs.Ytcjicfpdmegckaa.Y
