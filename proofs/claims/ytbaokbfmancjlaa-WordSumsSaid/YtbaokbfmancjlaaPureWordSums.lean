/- WordSums: for every a, b, most (int) and more (uint16), sums and products may be turned; with a greater most nothing that was told is lost. Conditions: none. -/
import Derived.Test.YtbaokbfmancjlaaSx4
import Derived.Test.YtbaokbfmancjlaaNum
namespace Go.Proofs.Ytbaokbfmancjlaa.Pure
open Go.RowKit Go.Proofs.Ytbaokbfmancjlaa.S Go.Proofs.YtbaokbfmancjlaaW.PrintWords Go.Proofs.YtbaokbfmancjlaaW.PrintLast Go.Proofs.YtbaokbfmancjlaaW.PrintMore Go.Proofs.Ytbaokbfmancjlaa.Num

theorem add_some {a b c : Int} (a0 : -9223372036854775808 ≤ a) (b0 : -9223372036854775808 ≤ b) (c1 : c ≤ 9223372036854775807) :
    word_Add.f a b c = some (if 0 ≤ a ∧ 0 ≤ b ∧ a + b ≤ c then (a + b, true) else (0, false)) := by
  unfold word_Add.f
  by_cases hn : mn a b < 0
  · rw [if_pos hn, if_neg (by unfold mn at hn; split at hn <;> omega)]
  · have h0 : 0 ≤ a ∧ 0 ≤ b := by unfold mn at hn; split at hn <;> omega
    rw [if_neg hn]
    by_cases h1 : a > c
    · rw [if_pos h1, if_neg (by omega)]
    · rw [if_neg h1, w64 (x := c - a) (by omega) (by omega)]
      by_cases h2 : b > c - a
      · rw [if_pos h2, if_neg (by omega)]
      · rw [if_neg h2, w64 (x := a + b) (by omega) (by omega), if_pos (by omega)]
theorem mul_some {a b c : Int} (a0 : -9223372036854775808 ≤ a) (b0 : -9223372036854775808 ≤ b) (c0 : -9223372036854775808 ≤ c) (c1 : c ≤ 9223372036854775807) :
    word_Mul.f a b c = some (if 0 ≤ a ∧ 0 ≤ b ∧ 0 ≤ c ∧ a * b ≤ c then (a * b, true) else (0, false)) := by
  unfold word_Mul.f
  by_cases hn : mn (mn a b) c < 0
  · rw [if_pos hn, if_neg (by unfold mn at hn; (repeat' split at hn) <;> omega)]
  · have h0 : 0 ≤ a ∧ 0 ≤ b ∧ 0 ≤ c := by unfold mn at hn; (repeat' split at hn) <;> omega
    obtain ⟨h0, h1, h2⟩ := h0
    rw [if_neg hn]
    by_cases hz : a > 0
    · rw [if_pos hz, if_neg (by omega), tdivn h2]
      have q0 : 0 ≤ c / a := Int.ediv_nonneg h2 (by omega)
      have q1 : c / a ≤ c := Int.ediv_le_self _ h2
      rw [w64 (x := c / a) (by omega) (by omega)]
      have e := @Int.le_ediv_iff_mul_le b c a hz
      rw [Int.mul_comm b a] at e
      have p0 : 0 ≤ a * b := Int.mul_nonneg h0 h1
      by_cases h : a * b ≤ c
      · rw [if_neg (by have := e.mpr h; omega), if_pos ⟨h0, h1, h2, h⟩, w64 (by omega) (by omega)]
      · rw [if_pos (by have : ¬ b ≤ c / a := fun h' => h (e.mp h'); omega), if_neg (fun h' => h h'.2.2.2)]
    · obtain rfl : a = 0 := by omega
      rw [if_neg hz]
      simp [h1, h2, w64 (x := 0) (by omega) (by omega)]

theorem WordSums : scullerlaw01_WordSums.Pure := by
  intro a b c m ha hb hc hm
  obtain ⟨a0, a1⟩ := bounds_i64 ha
  obtain ⟨b0, b1⟩ := bounds_i64 hb
  obtain ⟨c0, c1⟩ := bounds_i64 hc
  obtain ⟨m0, m1⟩ := bounds_u16 hm
  refine ⟨10, ?_⟩
  have hk : scullerlaw01_known.f 10 = some true := by decide +kernel
  unfold scullerlaw01_WordSums.f
  rw [w64 (x := m) (by omega) (by omega)]
  have hx : c ≤ mx c (wrap64 (c + m)) ∧ mx c (wrap64 (c + m)) ≤ 9223372036854775807 := by
    unfold mx wrap64
    split <;> omega
  rw [hk, add_some a0 b0 c1, add_some b0 a0 c1, mul_some a0 b0 c0 c1, mul_some b0 a0 c0 c1, add_some a0 b0 hx.2]
  rw [Int.add_comm b a, Int.mul_comm b a]
  simp only [Option.bind_some, if_true]
  generalize mx c (wrap64 (c + m)) = c' at *
  by_cases h1 : 0 ≤ a ∧ 0 ≤ b ∧ a + b ≤ c
  · have h2 : 0 ≤ b ∧ 0 ≤ a ∧ a + b ≤ c := by omega
    have h3 : 0 ≤ a ∧ 0 ≤ b ∧ a + b ≤ c' := by omega
    rw [if_pos h1, if_pos h2, if_pos h3]
    by_cases h4 : 0 ≤ a ∧ 0 ≤ b ∧ 0 ≤ c ∧ a * b ≤ c
    · rw [if_pos h4, if_pos (show 0 ≤ b ∧ 0 ≤ a ∧ 0 ≤ c ∧ a * b ≤ c from ⟨h4.2.1, h4.1, h4.2.2⟩)]; simp
    · rw [if_neg h4, if_neg (fun h5 : 0 ≤ b ∧ 0 ≤ a ∧ 0 ≤ c ∧ a * b ≤ c => h4 ⟨h5.2.1, h5.1, h5.2.2⟩)]; simp
  · have h2 : ¬ (0 ≤ b ∧ 0 ≤ a ∧ a + b ≤ c) := by omega
    rw [if_neg h1, if_neg h2]
    by_cases h4 : 0 ≤ a ∧ 0 ≤ b ∧ 0 ≤ c ∧ a * b ≤ c
    · rw [if_pos h4, if_pos (show 0 ≤ b ∧ 0 ≤ a ∧ 0 ≤ c ∧ a * b ≤ c from ⟨h4.2.1, h4.1, h4.2.2⟩)]; simp
    · rw [if_neg h4, if_neg (fun h5 : 0 ≤ b ∧ 0 ≤ a ∧ 0 ≤ c ∧ a * b ≤ c => h4 ⟨h5.2.1, h5.1, h5.2.2⟩)]; simp

end Go.Proofs.Ytbaokbfmancjlaa.Pure
