/- ManiCuts: the law's plain part. Conditions: those in each theorem. -/
import Derived.Test.YtliohoalackhiaaPNx20
import Derived.Test.YtliohoalackhiaaPNNCut
namespace Go.Proofs.Ytliohoalackhiaa.N
set_option linter.unusedVariables false
open Go.RowKit Go.Proofs.YtliohoalackhiaaW.PrintWords Go.Proofs.YtliohoalackhiaaW.PrintLast Go.Proofs.YtliohoalackhiaaW.PrintMore Go.Proofs.Ytliohoalackhiaa.Num Go.Proofs.Ytliohoalackhiaa.CrcN
theorem cuts_j2 (a b P Q : List (List Int)) (hua : ∀ s ∈ a, U64s s) (hla : a.length ≤ 10000000) (hTa : a.flatten.length ≤ 1000000) (hub : ∀ s ∈ b, U64s s) (hlb : b.length ≤ 10000000) (hTb : b.flatten.length ≤ 1000000)
    (hP : P.length < 100000) (hQ : Q.length < 100000) (i q x y x' y' : Int) (s s' : List Int) (k : Nat) (hk : 30000001 < k) : scullerlaw12_ManiCuts.j2 k a i P q b Q x s y x' s' y' = some true := by
  obtain ⟨k, rfl⟩ : ∃ j, k = j + 1 := ⟨k - 1, by omega⟩
  rw [scullerlaw12_ManiCuts.j2, cuts_true a hua hla hTa x s y i k (by omega), Option.bind_some, if_pos rfl, cuts_true b hub hlb hTb x' s' y' i k (by omega), Option.bind_some, if_pos rfl, cuts_true b hub hlb hTb x' s' y' _ k (by omega), Option.bind_some, if_pos rfl,
    join_true P hP k (by omega), Option.bind_some, if_pos rfl, join_true Q hQ k (by omega), Option.bind_some]
theorem cuts_l0 (a b P : List (List Int)) (hua : ∀ s ∈ a, U64s s) (hla : a.length ≤ 10000000) (hTa : a.flatten.length ≤ 1000000) (hub : ∀ s ∈ b, U64s s) (hlb : b.length ≤ 10000000) (hTb : b.flatten.length ≤ 1000000)
    (hP : P.length < 100000) (i q x y x' y' : Int) (s s' : List Int) : ∀ (d k j : Nat) (Q : List (List Int)), j + d = pagesN s' → d + 30000100 < k → Q.length = j → scullerlaw12_ManiCuts.l0 k a i P q b Q (j : Int) x s y x' s' y' = some true := by
  have hp : pagesN s' ≤ 4 := by
    unfold pagesN
    split
    · rename_i h
      have := ((fitsB_iff s').1 h).2.1
      omega
    · omega
  intro d
  induction d with
  | zero =>
    intro k j Q hj hk hQ
    obtain ⟨k, rfl⟩ : ∃ j, k = j + 1 := ⟨k - 1, by omega⟩
    rw [scullerlaw12_ManiCuts.l0, rpages_eq x' s' y' k (by omega), Option.bind_some, if_neg (by omega)]
    by_cases hq : Int.tmod q 4 = 3
    · rw [if_pos hq, if_pos (by omega)]
      exact cuts_j2 a b P _ hua hla hTa hub hlb hTb hP (by rw [List.length_append, List.length_singleton]; omega) i q x y x' y' s s' k (by omega)
    · rw [if_neg hq]
      exact cuts_j2 a b P Q hua hla hTa hub hlb hTb hP (by omega) i q x y x' y' s s' k (by omega)
  | succ d ih =>
    intro k j Q hj hk hQ
    obtain ⟨k, rfl⟩ : ∃ j, k = j + 1 := ⟨k - 1, by omega⟩
    have hn := ih k (j + 1) (Q ++ [(if fitsB s' = true then PieceI.pieceAt s' 4 (j : Int) else [])]) (by omega) (by omega) (by rw [List.length_append, List.length_singleton]; omega)
    rw [show ((j + 1 : Nat) : Int) = (j : Int) + 1 by omega] at hn
    rw [scullerlaw12_ManiCuts.l0, rpages_eq x' s' y' k (by omega), Option.bind_some, if_pos (by omega), rpage_any x' s' y' (j : Int) k (by omega), Option.bind_some, if_pos (by omega), w64 (x := (j : Int) + 1) (by omega) (by omega), hn]
theorem cuts_j0 (a P : List (List Int)) (hua : ∀ s ∈ a, U64s s) (hla : a.length ≤ 10000000) (hTa : a.flatten.length ≤ 1000000) (hP : P.length < 100000) (c : List Int) (hc : Bytes c) (i n m q x y : Int) (s : List Int) (hn : 0 ≤ n ∧ n ≤ 255) (hm : 0 ≤ m ∧ m ≤ 255) (k : Nat) (hk : 40000000 < k) :
    scullerlaw12_ManiCuts.j0 k a i P c n m q false x s y = some true := by
  obtain ⟨k, rfl⟩ : ∃ j, k = j + 1 := ⟨k - 1, by omega⟩
  obtain ⟨b, hb, hB⟩ := arena12 c n m hn hm hc k (by omega)
  obtain ⟨h1, h16, hT⟩ := hB.len
  rw [scullerlaw12_ManiCuts.j0, if_neg (by decide), hb, Option.bind_some, rof_eq b hB 3 (by omega) k (by omega), Option.bind_some]
  dsimp only
  have hp : pagesN (lens b) ≤ 4 := by
    unfold pagesN
    split
    · rename_i h
      have := ((fitsB_iff (lens b)).1 h).2.1
      omega
    · omega
  exact cuts_l0 a b P hua hla hTa hB.u (by omega) (by omega) hP i q x y 3 _ s (lens b) (pagesN (lens b)) k 0 [] (by omega) (by omega) rfl
theorem cuts_law (a P : List (List Int)) (hua : ∀ s ∈ a, U64s s) (hla : a.length ≤ 10000000) (hTa : a.flatten.length ≤ 10000000) (hP : P.length < 10000000) (c : List Int) (hc : Bytes c) (i n m q x y : Int) (s : List Int) (hn : 0 ≤ n ∧ n ≤ 255) (hm : 0 ≤ m ∧ m ≤ 255) :
    ∃ k, scullerlaw12_ManiCuts.f k a x s y i P c n m q = some true := by
  refine ⟨50000000, ?_⟩
  unfold scullerlaw12_ManiCuts.f
  rw [big_eq a (by omega) hla _ (by omega), Option.bind_some]
  have hj : ∀ k, 40000000 < k → scullerlaw12_ManiCuts.j0 k a i P c n m q true x s y = some true := by
    intro k hk
    obtain ⟨k, rfl⟩ : ∃ j, k = j + 1 := ⟨k - 1, by omega⟩
    rw [scullerlaw12_ManiCuts.j0, if_pos rfl, known12_eq k (by omega), Option.bind_some]
  by_cases h1 : a.flatten.length > 300
  · rw [decide_eq_true h1, if_pos rfl]; exact hj _ (by omega)
  rw [decide_eq_false h1, if_neg (by decide)]
  by_cases h2 : (s.length : Int) > 40
  · rw [if_pos h2]; exact hj _ (by omega)
  rw [if_neg h2]
  by_cases h3 : (P.length : Int) > 10
  · rw [if_pos h3]; exact hj _ (by omega)
  rw [if_neg h3, known12_eq _ (by omega), Option.bind_some, Bool.not_true]
  exact cuts_j0 a P hua hla (by omega) (by omega) c hc i n m q x y s hn hm _ (by omega)
end Go.Proofs.Ytliohoalackhiaa.N
