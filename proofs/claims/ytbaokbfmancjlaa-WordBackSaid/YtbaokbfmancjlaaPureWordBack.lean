/- WordBack: for every n (uint64) and k (uint8), a number of so many bytes is there again; with fewer it is what is left of it. Conditions: none. -/
import Derived.Test.YtbaokbfmancjlaaAx4
import Derived.Test.YtbaokbfmancjlaaAPut
namespace Go.Proofs.Ytbaokbfmancjlaa.Pure
open Go.RowKit Go.Proofs.Ytbaokbfmancjlaa.A Go.Proofs.YtbaokbfmancjlaaW.PrintWords Go.Proofs.YtbaokbfmancjlaaW.PrintLast Go.Proofs.YtbaokbfmancjlaaW.PrintMore Go.Proofs.Ytbaokbfmancjlaa.Num

theorem WordBack : scullerlaw01_WordBack.Pure := by
  intro n k hn hk
  obtain ⟨n0, n1⟩ := bounds_u64 hn
  obtain ⟨k0, k1⟩ := bounds_u8 hk
  refine ⟨11, ?_⟩
  have h10 : scullerlaw01_known.f 10 = some true := by decide +kernel
  have m0 : 0 ≤ k % 9 := Int.emod_nonneg _ (by omega)
  have m1 : k % 9 < 9 := Int.emod_lt_of_pos _ (by omega)
  obtain ⟨w, hw⟩ : ∃ w : Nat, k % 9 = (w : Int) := ⟨(k % 9).toNat, by omega⟩
  have w8 : w ≤ 8 := by omega
  have h8 : (256 : Int) ^ 8 = 18446744073709551616 := by decide
  have hall : n % 256 ^ 8 = n := by rw [h8]; omega
  have hj : ∀ low, low = n % 256 ^ w → scullerlaw01_WordBack.j0 11 n (w : Int) low = some true := by
    intro low hlow
    have hl : (putL n w).length = w := putL_length n w
    have ht : (putL n w).take 8 = putL n w := List.take_of_length_le (by omega)
    have ht8 : (putL n 8).take 8 = putL n 8 := List.take_of_length_le (by rw [putL_length]; omega)
    have ha : asked (w : Int) = w := asked_nat w8
    have ha8 : asked 8 = 8 := by decide
    simp only [scullerlaw01_WordBack.j0, h10, put_eq 10 (by omega), ha, ha8, get_eq _ (putL_bytes n _), ht, ht8, getL_putL, Option.bind_some, hl, hall, hlow]
    simp
  unfold scullerlaw01_WordBack.f
  rw [tmodn k0, hw, w64 (x := (w : Int)) (by omega) (by omega), w64 (x := 8 * (w : Int)) (by omega) (by omega), u64id (x := 8 * (w : Int)) (by omega) (by omega)]
  by_cases h : (w : Int) < 8
  · have s1 : shl .u64 1 (8 * (w : Int)) = 256 ^ w := by
      unfold shl
      have : min (8 * (w : Int)).toNat IntKind.u64.bits = 8 * w := by simp [IntKind.bits]; omega
      have hle := pow_le256 (show w ≤ 7 by omega)
      have h7 : (256 : Int) ^ 7 = 72057594037927936 := by decide
      have hp : (0 : Int) < 256 ^ w := Int.pow_pos (by decide)
      rw [this, Int.one_mul, ← pow256, u64id (by omega) (by omega)]
    have hp : (0 : Int) < 256 ^ w := Int.pow_pos (by decide)
    rw [if_pos h, if_pos (by omega), s1, if_neg (by omega), tmodn n0]
    exact hj _ rfl
  · obtain rfl : w = 8 := by omega
    rw [if_neg h]
    exact hj _ hall.symm

end Go.Proofs.Ytbaokbfmancjlaa.Pure
