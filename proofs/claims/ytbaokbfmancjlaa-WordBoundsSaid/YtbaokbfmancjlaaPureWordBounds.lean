/- WordBounds: for every a, b, most (uint32), sums and products that are told are right, and not above the most; others are above it. Conditions: none. -/
import Derived.Test.YtbaokbfmancjlaaSx3
import Derived.Test.YtbaokbfmancjlaaNum
namespace Go.Proofs.Ytbaokbfmancjlaa.Pure
open Go.RowKit Go.Proofs.Ytbaokbfmancjlaa.S Go.Proofs.YtbaokbfmancjlaaW.PrintWords Go.Proofs.YtbaokbfmancjlaaW.PrintLast Go.Proofs.YtbaokbfmancjlaaW.PrintMore Go.Proofs.Ytbaokbfmancjlaa.Num

theorem WordBounds : scullerlaw01_WordBounds.Pure := by
  intro a b c ha hb hc
  obtain ⟨a0, a1⟩ := bounds_u32 ha
  obtain ⟨b0, b1⟩ := bounds_u32 hb
  obtain ⟨c0, c1⟩ := bounds_u32 hc
  refine ⟨10, ?_⟩
  have hk : scullerlaw01_known.f 10 = some true := by decide +kernel
  have m0 : 0 ≤ b % 65536 := Int.emod_nonneg _ (by omega)
  have m1 : b % 65536 < 65536 := Int.emod_lt_of_pos _ (by omega)
  unfold scullerlaw01_WordBounds.f
  rw [hk, tmodn b0]
  generalize b % 65536 = y at *
  rw [w64 (x := a) (by omega) (by omega), w64 (x := y) (by omega) (by omega), w64 (x := c) (by omega) (by omega)]
  have p0 : 0 ≤ a * y := Int.mul_nonneg a0 m0
  have p1 : a * y ≤ 4294967295 * 65536 := Int.mul_le_mul a1 (by omega) m0 (by omega)
  have hA : word_Add.f a y c = some (if a + y ≤ c then (a + y, true) else (0, false)) := by
    unfold word_Add.f
    rw [if_neg (by unfold mn; split <;> omega), w64 (x := c - a) (by omega) (by omega), w64 (x := a + y) (by omega) (by omega)]
    by_cases h : a + y ≤ c
    · rw [if_neg (by omega), if_neg (by omega), if_pos h]
    · rw [if_neg h]
      by_cases h1 : a > c
      · rw [if_pos h1]
      · rw [if_neg h1, if_pos (by omega)]
  have hM : word_Mul.f a y c = some (if a * y ≤ c then (a * y, true) else (0, false)) := by
    unfold word_Mul.f
    rw [if_neg (by unfold mn; (repeat' split) <;> omega), w64 (x := a * y) (by omega) (by omega)]
    by_cases hz : a > 0
    · rw [if_pos hz, if_neg (by omega), tdivn c0]
      have q0 : 0 ≤ c / a := Int.ediv_nonneg c0 (by omega)
      have q1 : c / a ≤ c := Int.ediv_le_self _ c0
      rw [w64 (x := c / a) (by omega) (by omega)]
      have e := @Int.le_ediv_iff_mul_le y c a hz
      rw [Int.mul_comm y a] at e
      by_cases h : a * y ≤ c
      · rw [if_neg (by have := e.mpr h; omega), if_pos h]
      · rw [if_pos (by have : ¬ y ≤ c / a := fun h' => h (e.mp h'); omega), if_neg h]
    · obtain rfl : a = 0 := by omega
      simp; omega
  rw [hA, hM, w64 (x := a + y) (by omega) (by omega), w64 (x := a * y) (by omega) (by omega)]
  simp only [Option.bind_some, if_true]
  by_cases h1 : a + y ≤ c <;> by_cases h2 : a * y ≤ c <;> simp [h1, h2]

end Go.Proofs.Ytbaokbfmancjlaa.Pure
