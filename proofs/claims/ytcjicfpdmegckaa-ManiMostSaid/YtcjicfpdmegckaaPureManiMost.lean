/- ManiMost: the greatest arena has 512 chunks, and four pages; one that may not be has none: for every number of words and segments. Conditions: none. -/
import Derived.Test.YtcjicfpdmegckaaMx9
import Derived.Test.YtcjicfpdmegckaaMMBase
namespace Go.Proofs.Ytcjicfpdmegckaa.Pure
open Go.RowKit Go.Proofs.Ytcjicfpdmegckaa.M Go.Proofs.YtcjicfpdmegckaaW.PrintWords Go.Proofs.YtcjicfpdmegckaaW.PrintLast Go.Proofs.YtcjicfpdmegckaaW.PrintMore Go.Proofs.Ytcjicfpdmegckaa.Num Go.Proofs.Ytcjicfpdmegckaa.CrcN

theorem most_end (a0 x5 : Int) (s : List Int) (i : Int) (hi : ¬ i < x5) (k : Nat) (hk : 70 < k) : scullerlaw12_ManiMost.l0 k a0 x5 s i = some true := by
  obtain ⟨k, rfl⟩ : ∃ q, k = q + 1 := ⟨k - 1, by omega⟩
  have hc5 := chunksN_le s
  have hw := wordsI_bd s
  have hcc := chunksN_cast s
  rw [scullerlaw12_ManiMost.l0, if_neg hi, chunks_eq _ _ _ k (by omega), Option.bind_some, pages_eq _ _ _ k (by omega), Option.bind_some, maniRight_eq _ _ _ k (by omega), Option.bind_some]
  by_cases h : fitsB s = true
  · obtain ⟨l1, l16, g1, h0, hm⟩ := (fitsB_iff s).1 h
    have hwp : 1 ≤ wordsI s := by
      unfold wordsI; rw [if_pos h]
      have := (mem_le_sum s h0).2 (s.getD 0 0) (by rw [List.getD_eq_getElem?_getD, List.getElem?_eq_getElem (show 0 < s.length by omega)]; exact List.getElem_mem _)
      omega
    have hp : pagesN s = (s.length + 3) / 4 := by unfold pagesN; rw [if_pos h]
    have hs1 : sizeN s ((chunksN s : Int) - 1) > 0 := by unfold sizeN; rw [if_neg (by omega), if_neg (by omega)]; omega
    have hs2 : sizeN s (chunksN s : Int) = 0 := by unfold sizeN; rw [if_neg (by omega), if_pos (by omega)]
    rw [if_pos h, known12_eq k (by omega), Option.bind_some, if_pos rfl, if_pos (by omega), if_pos (by omega), if_pos (by omega), if_pos (by omega), w64 (by omega) (by omega), size_eq _ _ _ _ k (by omega), Option.bind_some, if_pos hs1, size_eq _ _ _ _ k (by omega), Option.bind_some, if_pos hs2,
      rwords_eq _ _ _ k (by omega), Option.bind_some, words_eq _ _ _ k (by omega), Option.bind_some]
    simp
  · have hp : pagesN s = 0 := by unfold pagesN; rw [if_neg h]
    have hw0 : wordsI s = 0 := by unfold wordsI; rw [if_neg h]
    have hc0 : chunksN s = 0 := by omega
    have hs0 : sizeN s 0 = 0 := by unfold sizeN; rw [if_neg (by omega), if_pos (by omega)]
    rw [if_neg h, known12_eq k (by omega), Option.bind_some, if_pos rfl, if_pos (by omega), if_pos (by omega), words_eq _ _ _ k (by omega), Option.bind_some, if_pos hw0, size_eq _ _ _ _ k (by omega), Option.bind_some, hs0]
    rfl
theorem most_l0 (a0 : Int) (m : Nat) (hm : 1 ≤ m ∧ m ≤ 20) : ∀ (d k i : Nat) (s : List Int), i + d = m → d + 70 < k → s.length = m → scullerlaw12_ManiMost.l0 k a0 (m : Int) s (i : Int) = some true := by
  intro d
  induction d with
  | zero =>
    intro k i s hi hk hs
    exact most_end a0 (m : Int) s (i : Int) (by omega) k (by omega)
  | succ d ih =>
    intro k i s hi hk hs
    obtain ⟨k, rfl⟩ : ∃ q, k = q + 1 := ⟨k - 1, by omega⟩
    rw [scullerlaw12_ManiMost.l0, if_pos (by omega), if_neg (by omega), if_pos (by omega), if_pos (by omega), w64 (x := (i : Int) + 1) (by omega) (by omega), show (i : Int) + 1 = ((i + 1 : Nat) : Int) by omega]
    exact ih k (i + 1) _ (by omega) (by omega) (by rw [List.length_set]; exact hs)
theorem ManiMost : scullerlaw12_ManiMost.Pure := by
  intro a0 a1 _ h1
  have h1 := bounds_u8 h1
  refine ⟨200, ?_⟩
  have m0 := Int.emod_nonneg a1 (show (20 : Int) ≠ 0 by omega)
  have m1 := Int.emod_lt_of_pos a1 (show (20 : Int) > 0 by omega)
  obtain ⟨m, hm⟩ : ∃ m : Nat, 1 + a1 % 20 = (m : Int) := ⟨(1 + a1 % 20).toNat, by omega⟩
  unfold scullerlaw12_ManiMost.f
  rw [tmodn h1.1, w64 (x := a1 % 20) (by omega) (by omega), w64 (by omega) (by omega), hm, if_pos (by omega), if_pos (by omega), Int.toNat_natCast]
  exact most_l0 a0 m (by omega) m 200 0 _ (by omega) (by omega) (by simp)
end Go.Proofs.Ytcjicfpdmegckaa.Pure
