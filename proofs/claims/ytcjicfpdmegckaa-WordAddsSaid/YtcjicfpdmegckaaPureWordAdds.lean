/- WordAdds: Add, Mul, Ceil and Signed of any numbers are what the chapter says. Conditions: none. -/
import Derived.Test.YtcjicfpdmegckaaSx3
import Derived.Test.YtcjicfpdmegckaaSx2
import Derived.Test.YtcjicfpdmegckaaSx1
import Derived.Test.YtcjicfpdmegckaaNum
namespace Go.Proofs.Ytcjicfpdmegckaa.Pure
open Go.RowKit Go.Proofs.Ytcjicfpdmegckaa.S Go.Proofs.YtcjicfpdmegckaaW.PrintWords Go.Proofs.YtcjicfpdmegckaaW.PrintLast Go.Proofs.YtcjicfpdmegckaaW.PrintMore Go.Proofs.Ytcjicfpdmegckaa.Num

theorem add_same (a b m : Int) : ∃ x q, word_Add.f a b m = some (x, q) ∧ scullerref01_Add.f a b m = some (x, q) := by
  unfold word_Add.f scullerref01_Add.f
  by_cases ha : a < 0
  · exact ⟨0, false, by rw [if_pos (by unfold mn; split <;> omega)], by rw [if_pos ha]⟩
  · by_cases hb : b < 0
    · exact ⟨0, false, by rw [if_pos (by unfold mn; split <;> omega)], by rw [if_neg ha, if_pos hb]⟩
    · rw [if_neg (show ¬ mn a b < 0 by unfold mn; split <;> omega), if_neg ha, if_neg hb]
      by_cases h1 : a > m
      · rw [if_pos h1]; exact ⟨_, _, rfl, rfl⟩
      · rw [if_neg h1]
        by_cases h2 : b > wrap64 (m - a)
        · rw [if_pos h2]; exact ⟨_, _, rfl, rfl⟩
        · rw [if_neg h2]; exact ⟨_, _, rfl, rfl⟩
theorem mul_same (a b m : Int) : ∃ x q, word_Mul.f a b m = some (x, q) ∧ scullerref01_Mul.f a b m = some (x, q) := by
  unfold word_Mul.f scullerref01_Mul.f
  by_cases ha : a < 0
  · exact ⟨0, false, by rw [if_pos (by unfold mn; (repeat' split) <;> omega)], by rw [if_pos ha]⟩
  · by_cases hb : b < 0
    · exact ⟨0, false, by rw [if_pos (by unfold mn; (repeat' split) <;> omega)], by rw [if_neg ha, if_pos hb]⟩
    · by_cases hm : m < 0
      · exact ⟨0, false, by rw [if_pos (by unfold mn; (repeat' split) <;> omega)], by rw [if_neg ha, if_neg hb, if_pos hm]⟩
      · rw [if_neg (show ¬ mn (mn a b) m < 0 by unfold mn; (repeat' split) <;> omega), if_neg ha, if_neg hb, if_neg hm]
        by_cases h1 : a > 0
        · rw [if_pos h1, if_neg (by omega)]
          by_cases h2 : b > wrap64 (Int.tdiv m a)
          · rw [if_pos h2]; exact ⟨_, _, rfl, rfl⟩
          · rw [if_neg h2]; exact ⟨_, _, rfl, rfl⟩
        · rw [if_neg h1]; exact ⟨_, _, rfl, rfl⟩
theorem adds_true (a b m : Int) : scullerlaw01_adds.f a b m = some true := by
  obtain ⟨x, q, e1, e2⟩ := add_same a b m
  obtain ⟨y, p, e3, e4⟩ := mul_same a b m
  unfold scullerlaw01_adds.f
  rw [e1, e2, e3, e4]
  simp
theorem ceil_same (a b : Int) : ∃ v, word_Ceil.f a b = some v ∧ scullerref01_Ceil.f 100 a b = some v := by
  unfold word_Ceil.f scullerref01_Ceil.f
  by_cases h1 : a < 0
  · exact ⟨0, by rw [if_pos h1], by rw [if_pos h1]; rfl⟩
  rw [if_neg h1, if_neg h1]
  by_cases h2 : a > 9007199254740992
  · exact ⟨0, by rw [if_pos h2], by rw [if_pos h2]; rfl⟩
  rw [if_neg h2, if_neg h2]
  by_cases h3 : b < 1
  · exact ⟨0, by rw [if_pos h3], by rw [if_pos h3]; rfl⟩
  rw [if_neg h3, if_neg h3]
  by_cases h4 : b > 9007199254740992
  · exact ⟨0, by rw [if_pos h4], by rw [decide_eq_true h4]; rfl⟩
  rw [if_neg h4, decide_eq_false h4, scullerref01_Ceil.j0, if_neg (show ¬ b = 0 by omega), if_neg (show ¬ (false = true) by decide), if_neg (show ¬ b = 0 by omega)]
  have hd : (a + b - 1) / b = if a / b * b < a then a / b + 1 else a / b := by
    have e := Int.mul_ediv_add_emod a b
    have m0 := Int.emod_nonneg a (show b ≠ 0 by omega)
    have m1 := Int.emod_lt_of_pos a (show 0 < b by omega)
    rw [Int.mul_comm] at e
    by_cases hz : a / b * b < a
    · rw [if_pos hz, show a + b - 1 = (a % b - 1) + (a / b + 1) * b by rw [Int.add_mul, Int.one_mul]; omega, Int.add_mul_ediv_right _ _ (by omega), Int.ediv_eq_zero_of_lt (by omega) (by omega)]; omega
    · rw [if_neg hz, show a + b - 1 = (b - 1) + a / b * b by omega, Int.add_mul_ediv_right _ _ (by omega), Int.ediv_eq_zero_of_lt (by omega) (by omega)]; omega
  have q0 : 0 ≤ a / b := Int.ediv_nonneg (by omega) (by omega)
  have q1 : a / b ≤ a := Int.ediv_le_self _ (by omega)
  have q2 : 0 ≤ a / b * b := Int.mul_nonneg q0 (by omega)
  have q3 : a / b * b ≤ a := Int.ediv_mul_le _ (by omega)
  rw [w64 (x := a + b) (by omega) (by omega), w64 (x := a + b - 1) (by omega) (by omega), tdivn (by omega), tdivn (by omega), hd, w64 (x := a / b) (by omega) (by omega), w64 (x := a / b * b) (by omega) (by omega)]
  by_cases hz : a / b * b < a
  · rw [if_pos hz, if_pos hz]; exact ⟨_, rfl, rfl⟩
  · rw [if_neg hz, if_neg hz, w64 (x := a / b) (by omega) (by omega)]; exact ⟨_, rfl, rfl⟩
theorem rsigned_l0 (n : Int) (n0 : 0 ≤ n) (s : Nat) (h1 : 1 ≤ s) (h2 : s ≤ 63) : ∀ (d k i : Nat), i + d = s → 1 ≤ i → d < k → scullerref01_Signed.l0 k n (s : Int) (2 ^ (i - 1)) (i : Int) = some (sgn n s) := by
  intro d
  induction d with
  | zero =>
    intro k i hi hi1 hk
    obtain ⟨k, rfl⟩ : ∃ j, k = j + 1 := ⟨k - 1, by omega⟩
    obtain rfl : i = s := by omega
    have hH := two_pos (i - 1)
    have hHm : (2 : Int) ^ (i - 1) ≤ 2 ^ 62 := pow_le_pow (by omega)
    have hPH : (2 : Int) ^ i = 2 * 2 ^ (i - 1) := by
      conv => lhs; rw [show i = (i - 1) + 1 by omega, Int.pow_succ]
      omega
    have m0 : 0 ≤ n % 2 ^ i := Int.emod_nonneg _ (by omega)
    have m1 : n % 2 ^ i < 2 ^ i := Int.emod_lt_of_pos _ (by omega)
    rw [scullerref01_Signed.l0, if_neg (by omega), u64id (x := 2 ^ (i - 1)) (by omega) (by omega), u64id (x := 2 * 2 ^ (i - 1)) (by omega) (by omega), if_neg (by omega), tmodn n0, ← hPH]
    unfold sgn
    rw [w64 (x := n % 2 ^ i) (by omega) (by omega)]
    by_cases hm : n % 2 ^ i < 2 ^ (i - 1)
    · rw [if_neg (by omega), if_pos hm]
    · rw [if_pos (by omega), if_neg hm, w64 (x := n % 2 ^ i - 2 ^ (i - 1)) (by omega) (by omega), w64 (x := n % 2 ^ i - 2 ^ (i - 1) - 2 ^ (i - 1)) (by omega) (by omega)]
      congr 1; omega
  | succ d ih =>
    intro k i hi hi1 hk
    obtain ⟨k, rfl⟩ : ∃ j, k = j + 1 := ⟨k - 1, by omega⟩
    have hHm : (2 : Int) ^ (i - 1) ≤ 2 ^ 61 := pow_le_pow (by omega)
    have hH := two_pos (i - 1)
    have hPH : (2 : Int) ^ i = 2 * 2 ^ (i - 1) := by
      conv => lhs; rw [show i = (i - 1) + 1 by omega, Int.pow_succ]
      omega
    have := ih k (i + 1) (by omega) (by omega) (by omega)
    rw [show i + 1 - 1 = i by omega, show ((i + 1 : Nat) : Int) = (i : Int) + 1 by omega] at this
    rw [scullerref01_Signed.l0, if_pos (by omega), w64 (x := 2 * 2 ^ (i - 1)) (by omega) (by omega), w64 (x := (i : Int) + 1) (by omega) (by omega), ← hPH, this]
theorem signed_same (n : Int) (n0 : 0 ≤ n) (w : Int) : ∃ v, word_Signed.f n w = some v ∧ scullerref01_Signed.f 100 n w = some v := by
  obtain ⟨s, hs⟩ : ∃ s : Nat, mx 1 (mn w 63) = (s : Int) := ⟨(mx 1 (mn w 63)).toNat, by unfold mx mn; (repeat' split) <;> omega⟩
  have h12 : 1 ≤ s ∧ s ≤ 63 := by unfold mx mn at hs; (repeat' split at hs) <;> omega
  refine ⟨sgn n s, ?_, ?_⟩
  · unfold word_Signed.f
    rw [hs, show (64 - (s : Int)).toNat = 64 - s by omega, shift_sgn n s h12.1 h12.2]
  · unfold scullerref01_Signed.f
    rw [hs]
    exact rsigned_l0 n n0 s h12.1 h12.2 (s - 1) 100 1 (by omega) (by omega) (by omega)
theorem WordAdds : scullerlaw01_WordAdds.Pure := by
  intro a b m n w k ha hb hm hn hw hk
  obtain ⟨n0, n1⟩ := bounds_u64 hn
  obtain ⟨k0, k1⟩ := bounds_u8 hk
  have hkn : scullerlaw01_known.f 100 = some true := by decide +kernel
  refine ⟨100, ?_⟩
  unfold scullerlaw01_WordAdds.f
  obtain ⟨v1, e1, e2⟩ := ceil_same a b
  obtain ⟨v2, e3, e4⟩ := ceil_same (shr .i64 a (Int.tmod k 64)) (shr .i64 b (Int.tmod k 64))
  obtain ⟨v3, e5, e6⟩ := signed_same n n0 w
  obtain ⟨v4, e7, e8⟩ := signed_same n n0 (wrap64 ((wrap64 (Int.tmod k 70)) - 3))
  rw [hkn, Option.bind_some, if_pos rfl, adds_true, Option.bind_some, if_pos rfl, if_pos (by rw [tmodn k0]; omega), adds_true, Option.bind_some, if_pos rfl, e1, Option.bind_some, e2, Option.bind_some, if_pos rfl, e3, Option.bind_some, e4, Option.bind_some, if_pos rfl, e5, Option.bind_some, e6, Option.bind_some, if_pos rfl, e7, Option.bind_some, e8, Option.bind_some]
  simp
end Go.Proofs.Ytcjicfpdmegckaa.Pure
