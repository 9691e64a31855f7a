/- WordSigns: for every n (uint64) and k (uint8), a signed number, and as many more, are the same bits; it lies in its bounds. Conditions: none. -/
import Derived.Test.YtbaokbfmancjlaaSx2
import Derived.Test.YtbaokbfmancjlaaNum
namespace Go.Proofs.Ytbaokbfmancjlaa.Pure
open Go.RowKit Go.Proofs.Ytbaokbfmancjlaa.S Go.Proofs.YtbaokbfmancjlaaW.PrintWords Go.Proofs.YtbaokbfmancjlaaW.PrintLast Go.Proofs.YtbaokbfmancjlaaW.PrintMore Go.Proofs.Ytbaokbfmancjlaa.Num

theorem signed_eq (n : Int) (w : Nat) (h1 : 1 ≤ w) (h2 : w ≤ 63) : word_Signed.f n (w : Int) = some (sgn n w) := by
  unfold word_Signed.f
  have e : (64 - (mx 1 (mn (w : Int) 63))).toNat = 64 - w := by
    have : mx 1 (mn (w : Int) 63) = w := by unfold mx mn; (repeat' split) <;> omega
    rw [this]; omega
  rw [e, shift_sgn n w h1 h2]

theorem WordSigns : scullerlaw01_WordSigns.Pure := by
  intro n k hn hk
  obtain ⟨n0, n1⟩ := bounds_u64 hn
  obtain ⟨k0, k1⟩ := bounds_u8 hk
  refine ⟨10, ?_⟩
  have hkn : scullerlaw01_known.f 10 = some true := by decide +kernel
  have m0 : 0 ≤ k % 62 := Int.emod_nonneg _ (by omega)
  have m1 : k % 62 < 62 := Int.emod_lt_of_pos _ (by omega)
  obtain ⟨w, hw⟩ : ∃ w : Nat, 1 + k % 62 = (w : Int) := ⟨(1 + k % 62).toNat, by omega⟩
  have w1 : 1 ≤ w := by omega
  have w2 : w ≤ 62 := by omega
  unfold scullerlaw01_WordSigns.f
  rw [tmodn (a := k) k0, w64 (x := k % 62) (by omega) (by omega), hw, w64 (x := (w : Int)) (by omega) (by omega), w64 (x := (w : Int) - 1) (by omega) (by omega)]
  rw [u64id (x := (w : Int)) (by omega) (by omega), u64id (x := (w : Int) - 1) (by omega) (by omega)]
  rw [signed_eq n w w1 (by omega), hkn]
  have hH := two_pos (w - 1)
  have hHm : (2 : Int) ^ (w - 1) ≤ 2 ^ 61 := pow_le_pow (by omega)
  have hPm : (2 : Int) ^ w ≤ 2 ^ 62 := pow_le_pow (by omega)
  have hP := two_pos w
  have s1 : shl .i64 1 ((w : Int) - 1) = 2 ^ (w - 1) := by
    unfold shl
    have : min ((w : Int) - 1).toNat IntKind.i64.bits = w - 1 := by simp [IntKind.bits]; omega
    rw [this, Int.one_mul]
    exact (i64_w _).trans (w64 (by omega) (by omega))
  have s2 : shl .u64 1 (w : Int) = 2 ^ w := by
    unfold shl
    have : min ((w : Int)).toNat IntKind.u64.bits = w := by simp [IntKind.bits]; omega
    rw [this, Int.one_mul]
    exact u64id (by omega) (by omega)
  rw [s1, s2]
  obtain ⟨b0, b1⟩ := sgn_bounds n w w1
  have hz := u64w (sgn n w)
  simp only [Option.bind_some, if_true]
  rw [if_pos (by omega), if_pos (by rw [w64 (by omega) (by omega)]; exact b0), if_pos b1, if_pos (by omega), if_neg (by omega)]
  have z0 : 0 ≤ sgn n w % 18446744073709551616 := Int.emod_nonneg _ (by omega)
  have hm : (sgn n w % 18446744073709551616) % 2 ^ w = n % 2 ^ w := by
    rw [Int.emod_emod_of_dvd _ (pow_dvd w (by omega)), sgn_mod]
  rw [hz, tmodn z0, tmodn n0, if_pos hm, signed_eq _ w w1 (by omega), sgn_of_mod hm]
  simp

end Go.Proofs.Ytbaokbfmancjlaa.Pure
