/- Plain numbers: what the wraps of Go's integers are where nothing wraps; lowest bits and signs. No program in sight but the words of the print. -/
import Derived.Test.YtcjicfpdmegckaaWMore
import Derived.OpenShut
namespace Go.Proofs.Ytcjicfpdmegckaa.Num
open Go.RowKit Go.Proofs.YtcjicfpdmegckaaW.PrintWords Go.Proofs.YtcjicfpdmegckaaW.PrintLast Go.Proofs.YtcjicfpdmegckaaW.PrintMore

theorem w64 {x : Int} (h0 : -9223372036854775808 ≤ x) (h1 : x ≤ 9223372036854775807) : wrap64 x = x := by
  unfold wrap64; omega
theorem u64w (x : Int) : IntKind.u64.wrap x = x % 18446744073709551616 := by
  simp [IntKind.wrap, IntKind.bits, IntKind.signed]
theorem u64id {x : Int} (h0 : 0 ≤ x) (h1 : x ≤ 18446744073709551615) : IntKind.u64.wrap x = x := by
  rw [u64w]; omega
theorem tdivn {a b : Int} (h : 0 ≤ a) : Int.tdiv a b = a / b := Int.tdiv_eq_ediv_of_nonneg h
theorem tmodn {a b : Int} (h : 0 ≤ a) : Int.tmod a b = a % b := Int.tmod_eq_emod_of_nonneg h
theorem two_pos (n : Nat) : (0 : Int) < 2 ^ n := Int.pow_pos (by decide)

/-- the lowest w bits, the greatest of them the sign -/
def sgn (n : Int) (w : Nat) : Int := if n % 2 ^ w < 2 ^ (w - 1) then n % 2 ^ w else n % 2 ^ w - 2 ^ w

theorem shift_sgn (n : Int) (w : Nat) (h1 : 1 ≤ w) (h2 : w ≤ 63) : (wrap64 (IntKind.u64.wrap (n * 2 ^ (64 - w)))) / 2 ^ (64 - w) = sgn n w := by
  have hP : (0 : Int) < 2 ^ w := two_pos w
  have hQ : (0 : Int) < 2 ^ (64 - w) := two_pos _
  have hH : (0 : Int) < 2 ^ (w - 1) := two_pos _
  have hPH : (2 : Int) ^ w = 2 * 2 ^ (w - 1) := by
    conv => lhs; rw [show w = (w - 1) + 1 by omega, Int.pow_succ]
    omega
  have hPQ : (2 : Int) ^ w * 2 ^ (64 - w) = 18446744073709551616 := by
    rw [← Int.pow_add, show w + (64 - w) = 64 by omega]; rfl
  generalize hq : (2 : Int) ^ (64 - w) = Q at *
  generalize hp : (2 : Int) ^ w = P at *
  generalize hh : (2 : Int) ^ (w - 1) = H at *
  have e1 : IntKind.u64.wrap (n * Q) = Q * (n % P) := by
    rw [u64w, ← hPQ, Int.mul_comm n Q, Int.mul_comm P Q, Int.mul_emod_mul_of_pos _ _ hQ]
  have m0 : 0 ≤ n % P := Int.emod_nonneg _ (by omega)
  have m1 : n % P < P := Int.emod_lt_of_pos _ hP
  have hHQ : H * Q = 9223372036854775808 := by
    have : (2 * H) * Q = 18446744073709551616 := by rw [← hPH]; exact hPQ
    rw [Int.mul_assoc] at this; omega
  rw [e1]
  unfold sgn
  rw [hp, hh]
  generalize n % P = m at *
  by_cases hm : m < H
  · rw [if_pos hm]
    have b : Q * m < 9223372036854775808 := by rw [← hHQ, Int.mul_comm H Q]; exact Int.mul_lt_mul_of_pos_left hm hQ
    have b0 : 0 ≤ Q * m := Int.mul_nonneg (by omega) m0
    rw [w64 (by omega) (by omega), Int.mul_ediv_cancel_left _ (by omega)]
  · rw [if_neg hm]
    have b : 9223372036854775808 ≤ Q * m := by rw [← hHQ, Int.mul_comm H Q]; exact Int.mul_le_mul_of_nonneg_left (by omega) (by omega)
    have b1 : Q * m < 18446744073709551616 := by rw [← hPQ, Int.mul_comm P Q]; exact Int.mul_lt_mul_of_pos_left m1 hQ
    have : wrap64 (Q * m) = Q * (m - P) := by
      unfold wrap64
      rw [Int.mul_sub, Int.mul_comm Q P, hPQ]
      omega
    rw [this, Int.mul_ediv_cancel_left _ (by omega)]

theorem sgn_bounds (n : Int) (w : Nat) (h1 : 1 ≤ w) : -(2 ^ (w - 1)) ≤ sgn n w ∧ sgn n w < 2 ^ (w - 1) := by
  have hPH : (2 : Int) ^ w = 2 * 2 ^ (w - 1) := by
    conv => lhs; rw [show w = (w - 1) + 1 by omega, Int.pow_succ]
    omega
  have m0 : 0 ≤ n % 2 ^ w := Int.emod_nonneg _ (by have := two_pos w; omega)
  have m1 : n % 2 ^ w < 2 ^ w := Int.emod_lt_of_pos _ (two_pos w)
  unfold sgn
  split <;> omega
theorem sgn_mod (n : Int) (w : Nat) : sgn n w % 2 ^ w = n % 2 ^ w := by
  unfold sgn
  split
  · exact Int.emod_emod_of_dvd _ (Int.dvd_refl _)
  · rw [Int.sub_emod_right]; exact Int.emod_emod_of_dvd _ (Int.dvd_refl _)
theorem sgn_of_mod {a b : Int} {w : Nat} (h : a % 2 ^ w = b % 2 ^ w) : sgn a w = sgn b w := by unfold sgn; rw [h]
theorem pow_dvd (w : Nat) (h : w ≤ 64) : (2 : Int) ^ w ∣ 18446744073709551616 := ⟨2 ^ (64 - w), by rw [← Int.pow_add, show w + (64 - w) = 64 by omega]; rfl⟩
theorem pow_le_pow {a b : Nat} (h : a ≤ b) : (2 : Int) ^ a ≤ 2 ^ b := by
  obtain ⟨c, rfl⟩ := Nat.exists_eq_add_of_le h
  rw [Int.pow_add]
  have := two_pos a
  have h2 : (1 : Int) ≤ 2 ^ c := by have := two_pos c; omega
  calc (2 : Int) ^ a = 2 ^ a * 1 := by omega
    _ ≤ 2 ^ a * 2 ^ c := Int.mul_le_mul_of_nonneg_left h2 (by omega)
end Go.Proofs.Ytcjicfpdmegckaa.Num
