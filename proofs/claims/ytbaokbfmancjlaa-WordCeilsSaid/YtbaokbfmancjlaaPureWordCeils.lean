/- WordCeils: for every n (uint32) and d (uint16), as many as are needed, and one less is too few. Conditions: none. -/
import Derived.Test.YtbaokbfmancjlaaSx3
import Derived.Test.YtbaokbfmancjlaaNum
namespace Go.Proofs.Ytbaokbfmancjlaa.Pure
open Go.RowKit Go.Proofs.Ytbaokbfmancjlaa.S Go.Proofs.YtbaokbfmancjlaaW.PrintWords Go.Proofs.YtbaokbfmancjlaaW.PrintLast Go.Proofs.Ytbaokbfmancjlaa.Num

theorem WordCeils : scullerlaw01_WordCeils.Pure := by
  intro a b ha hb
  obtain ⟨a0, a1⟩ := bounds_u32 ha
  obtain ⟨b0, b1⟩ := bounds_u16 hb
  refine ⟨10, ?_⟩
  have hk : scullerlaw01_known.f 10 = some true := by decide +kernel
  unfold scullerlaw01_WordCeils.f word_Ceil.f
  rw [hk, w64 (x := a) (by omega) (by omega), w64 (x := b) (by omega) (by omega), w64 (x := b + 1) (by omega) (by omega)]
  rw [if_neg (by omega), if_neg (by omega), if_neg (by omega), if_neg (by omega), if_neg (by omega)]
  rw [w64 (x := a + (b + 1)) (by omega) (by omega), w64 (x := a + (b + 1) - 1) (by omega) (by omega), tdivn (by omega)]
  have e := Int.mul_ediv_add_emod (a + (b + 1) - 1) (b + 1)
  have l0 := Int.emod_nonneg (a + (b + 1) - 1) (show b + 1 ≠ 0 by omega)
  have l1 := Int.emod_lt_of_pos (a + (b + 1) - 1) (show 0 < b + 1 by omega)
  have q0 : 0 ≤ (a + (b + 1) - 1) / (b + 1) := Int.ediv_nonneg (by omega) (by omega)
  have q1 : (a + (b + 1) - 1) / (b + 1) ≤ a + (b + 1) - 1 := Int.ediv_le_self _ (by omega)
  rw [w64 (x := (a + (b + 1) - 1) / (b + 1)) (by omega) (by omega)]
  generalize (a + (b + 1) - 1) / (b + 1) = q at *
  generalize (a + (b + 1) - 1) % (b + 1) = m at *
  rw [Int.mul_comm] at e
  have e2 : (q - 1) * (b + 1) = q * (b + 1) - (b + 1) := by rw [Int.sub_mul, Int.one_mul]
  simp only [Option.bind_some, if_true]
  rw [w64 (x := q - 1) (by omega) (by omega), e2]
  by_cases hz : a = 0
  · subst hz
    have hq : q = 0 := by
      rcases Int.lt_or_le q 1 with h | h
      · omega
      · have : 1 * (b + 1) ≤ q * (b + 1) := Int.mul_le_mul_of_nonneg_right h (by omega)
        omega
    subst hq
    simp [w64 (x := 0) (by omega) (by omega)]
  · generalize q * (b + 1) = z at *
    rw [w64 (x := z) (by omega) (by omega), w64 (x := z - (b + 1)) (by omega) (by omega), if_pos (by omega), if_neg hz]
    rw [decide_eq_true (by omega)]

end Go.Proofs.Ytbaokbfmancjlaa.Pure
