/- What bits.Right tells, by the bits that are set. Conditions: those in each theorem. -/
import Derived.Test.YtcjicfpdmegckaaKx4
import Derived.Test.YtcjicfpdmegckaaKBitsM
namespace Go.Proofs.Ytcjicfpdmegckaa.K
open Go.RowKit Go.Proofs.YtcjicfpdmegckaaW.PrintWords Go.Proofs.YtcjicfpdmegckaaW.PrintLast Go.Proofs.YtcjicfpdmegckaaW.PrintMore Go.Proofs.Ytcjicfpdmegckaa.Num
theorem high_fin : ∀ x : Fin 256, ∀ t : Fin 8, (shr .u8 (x.val : Int) (t.val : Int) == 0) = ((List.range 8).all fun i => decide (i < t.val) || !x.val.testBit i) := by decide +kernel
theorem high_eq {x : Int} (h : 0 ≤ x ∧ x ≤ 255) {t : Nat} (ht : t < 8) : (shr .u8 x (t : Int) == 0) = ((List.range 8).all fun i => decide (i < t) || !x.toNat.testBit i) := by
  have := high_fin ⟨x.toNat, by omega⟩ ⟨t, ht⟩
  simp only [Int.toNat_of_nonneg h.1] at this
  exact this
theorem right_nat {l : List Int} (hb : Bytes l) (hl : l.length < 140737488355328) {n : Nat} (hn : n ≤ 65536) : ∃ r, bits_Right.f l (n : Int) = some r ∧ (r = true ↔ l.length = (n + 7) / 8 ∧ ∀ i, n ≤ i → B l i = false) := by
  unfold bits_Right.f
  rw [if_neg (by omega), if_neg (by omega), make_nat hn, Option.bind_some, List.length_replicate, tmodn (by omega)]
  by_cases h : (l.length : Int) = (((n + 7) / 8 : Nat) : Int)
  · rw [if_pos h]
    by_cases h8 : (n : Int) % 8 = 0
    · rw [if_pos h8]
      exact ⟨_, rfl, ⟨fun _ => ⟨by omega, fun i hi => B_out (by omega)⟩, fun _ => rfl⟩⟩
    · rw [if_neg h8, w64 (by omega) (by omega), if_pos (by omega), if_pos (by omega), if_pos (by omega)]
      refine ⟨_, rfl, ?_⟩
      unfold rd
      rw [show ((l.length : Int) - 1).toNat = n / 8 by omega, show (n : Int) % 8 = ((n % 8 : Nat) : Int) by omega, high_eq (hb.at_ _) (by omega), List.all_eq_true]
      constructor
      · intro h1
        refine ⟨by omega, fun i hi => ?_⟩
        by_cases hi2 : i < 8 * l.length
        · have := h1 (i % 8) (List.mem_range.2 (by omega))
          unfold B
          rw [show i / 8 = n / 8 by omega]
          simpa [show ¬ i % 8 < n % 8 by omega] using this
        · exact B_out (by omega)
      · rintro ⟨_, h1⟩ i hi
        have hi := List.mem_range.1 hi
        by_cases hin : i < n % 8
        · simp [hin]
        · have := h1 (8 * (n / 8) + i) (by omega)
          unfold B at this
          rw [show (8 * (n / 8) + i) / 8 = n / 8 by omega, show (8 * (n / 8) + i) % 8 = i by omega] at this
          simpa [hin] using this
  · rw [if_neg h]
    exact ⟨_, rfl, ⟨fun h1 => (by cases h1), fun h1 => absurd h1.1 (by omega)⟩⟩
end Go.Proofs.Ytcjicfpdmegckaa.K
