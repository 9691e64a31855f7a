/- ManiOrder: pages that are not whole, or that are none, are joined to nothing: for every choices. Conditions: none. -/
import Derived.Test.YtliohoalackhiaaTLx11
import Derived.Test.YtliohoalackhiaaTLLAre
import Derived.Test.YtliohoalackhiaaTLLMan
namespace Go.Proofs.Ytliohoalackhiaa.Pure
set_option linter.unusedVariables false
open Go.RowKit Go.Proofs.Ytliohoalackhiaa.L Go.Proofs.YtliohoalackhiaaW.PrintWords Go.Proofs.YtliohoalackhiaaW.PrintLast Go.Proofs.YtliohoalackhiaaW.PrintMore Go.Proofs.Ytliohoalackhiaa.Num Go.Proofs.Ytliohoalackhiaa.CrcN
theorem pagesB_bad (p : List Int) (hp : ¬ (1 ≤ p.length ∧ p.length ≤ 4)) : ∀ P : List (List Int), pagesB 0 (P ++ [p]) = false
  | [] => by
    show ((decide (1 ≤ p.length) && decide (p.length ≤ 4) && ([].isEmpty || decide (4 ≤ p.length))) && pagesB 0 []) = false
    by_cases h1 : 1 ≤ p.length
    · rw [decide_eq_false (show ¬ p.length ≤ 4 by omega)]; simp
    · rw [decide_eq_false h1]; simp
  | q :: t => by
    rw [List.cons_append, pagesB, pagesB_bad p hp t, Bool.and_false]
theorem joinF_bad {P : List (List Int)} (h : pagesB 0 P = false) : joinF P = ([], false) := by
  unfold joinF
  rw [if_neg (fun q => by rw [h] at q; cases q.1)]
theorem order_l0 (ss : List Int) (h : fitsB ss = true) (x y q : Int) : ∀ (d k i : Nat), i + d = pagesN ss → d + 50000 < k →
    scullerlaw12_ManiOrder.l0 k q (piecesL ss 4 i) (i : Int) x ss y = some true := by
  obtain ⟨h1, h16, _⟩ := (fitsB_iff ss).1 h
  have hp : pagesN ss = (ss.length + 3) / 4 := if_pos h
  intro d
  induction d with
  | zero =>
    intro k i hi hk
    obtain ⟨k, rfl⟩ : ∃ q, k = q + 1 := ⟨k - 1, by omega⟩
    obtain rfl : i = pagesN ss := by omega
    have hl := piecesL_length ss 4 (pagesN ss)
    have hj := join_pieces h
    rw [scullerlaw12_ManiOrder.l0, pages_eq x ss y k (by omega), Option.bind_some, if_neg (by omega), if_neg (by omega), join_eq _ (by omega) k (by omega), Option.bind_some, hj]
    dsimp only
    rw [known12_eq k (by omega), maniSame_eq x ss y x ss y (by omega) k (by omega)]
    by_cases c0 : Int.tmod q 3 = 0
    · rw [if_pos c0, if_pos (by omega), join_eq _ (by rw [List.length_append, hl]; simp only [List.length_singleton]; omega) k (by rw [List.length_append, hl]; simp only [List.length_singleton]; omega), Option.bind_some, joinF_bad (pagesB_bad [] (by simp) _)]
      dsimp only
      rw [Option.bind_some, if_pos rfl, if_pos rfl, if_neg (by simp), if_pos (by simp), Option.bind_some]
      simp
    rw [if_neg c0]
    by_cases c1 : Int.tmod q 3 = 1
    · rw [if_pos c1, if_pos (by omega), join_eq _ (by rw [List.length_append, hl]; simp only [List.length_singleton]; omega) k (by rw [List.length_append, hl]; simp only [List.length_singleton]; omega), Option.bind_some, joinF_bad (pagesB_bad [1, 1, 1, 1, 1] (by simp) _)]
      dsimp only
      rw [Option.bind_some, if_pos rfl, if_pos rfl, if_neg (by simp), if_pos (by simp), Option.bind_some]
      simp
    have hb : pagesB 0 ([] ++ [[1]] ++ piecesL ss 4 (pagesN ss)) = false := by
      cases hP : piecesL ss 4 (pagesN ss) with
      | nil => rw [hP] at hl; simp only [List.length_nil] at hl; omega
      | cons p t => rfl
    rw [if_neg c1, if_pos (by simp), Option.bind_some, if_pos (by simp only [List.nil_append, List.length_singleton]; omega), join_eq _ (by rw [List.length_append, hl]; simp only [List.nil_append, List.length_singleton]; omega) k (by rw [List.length_append, hl]; simp only [List.nil_append, List.length_singleton]; omega), Option.bind_some, joinF_bad hb]
    dsimp only
    rw [Option.bind_some, if_pos rfl, if_pos rfl, if_neg (by simp), if_pos (by simp), Option.bind_some]
    simp
  | succ d ih =>
    intro k i hi hk
    obtain ⟨k, rfl⟩ : ∃ q, k = q + 1 := ⟨k - 1, by omega⟩
    have hn := ih k (i + 1) (by omega) (by omega)
    have hpi := pieceI_nat ss 4 i
    rw [show ((4 : Nat) : Int) = 4 from rfl] at hpi
    rw [show ((i + 1 : Nat) : Int) = (i : Int) + 1 by omega, piecesL_succ, ← hpi] at hn
    rw [scullerlaw12_ManiOrder.l0, pages_eq x ss y k (by omega), Option.bind_some, if_pos (by omega), page_eq x ss y (i : Int) k (by omega), Option.bind_some, if_pos h, if_pos (by rw [piecesL_length]; omega), w64 (x := (i : Int) + 1) (by omega) (by omega), hn]
theorem ManiOrder : scullerlaw12_ManiOrder.Pure := by
  intro c n m q hl hl2 hw hn hm hq
  have hcb := Bytes.of_wf hw
  obtain ⟨a, ha, hA⟩ := arena12 c n m (bounds_u8 hn) (bounds_u8 hm) hcb 100000 (by omega)
  have hf : fitsB (lens a) = true := hA.f
  have h16 := ((fitsB_iff _).1 hf).2.1
  have hp : pagesN (lens a) = ((lens a).length + 3) / 4 := if_pos hf
  refine ⟨100000, ?_⟩
  unfold scullerlaw12_ManiOrder.f
  rw [ha, Option.bind_some, of_ok 1 a hf 100000 (by omega), Option.bind_some]
  dsimp only
  exact order_l0 (lens a) hf 1 _ q (pagesN (lens a)) 100000 0 (by omega) (by omega)
end Go.Proofs.Ytliohoalackhiaa.Pure
