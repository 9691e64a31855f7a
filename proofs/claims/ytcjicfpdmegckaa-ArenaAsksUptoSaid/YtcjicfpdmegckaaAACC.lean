/- What the document's Cut computes. Conditions: those in each theorem. -/
/- What the document's Same tells: whether two arenas are the same. Conditions: those in each theorem. -/
import Derived.Test.YtcjicfpdmegckaaAx17
import Derived.Test.YtcjicfpdmegckaaAABase
import Derived.Test.YtcjicfpdmegckaaAABB
import Derived.Test.YtcjicfpdmegckaaAAAre
import Derived.Test.YtcjicfpdmegckaaAx14
namespace Go.Proofs.Ytcjicfpdmegckaa.A
set_option linter.unusedVariables false
open Go.RowKit Go.Proofs.YtcjicfpdmegckaaW.PrintWords Go.Proofs.YtcjicfpdmegckaaW.PrintLast Go.Proofs.YtcjicfpdmegckaaW.PrintMore Go.Proofs.Ytcjicfpdmegckaa.Num Go.Proofs.Ytcjicfpdmegckaa.CrcN

theorem rcut_l2 (s b : List Int) (i : Nat) (hi : i < s.length) (x9 : List (List Int)) (h9 : x9.length ≤ 100) (m : Nat) (hsz : rd s (i : Int) = (m : Int)) (hm : m ≤ 4096) (hB : Bytes b) (hbl : b.length < 140737488355328) (R : Option (List (List Int) × Int)) (k0 : Nat) (hk0 : 10 < k0) : ∀ (d : Nat) (k j q : Nat) (x12 : List Int), j + d = m → x12.length = j → 8 * d + q ≤ b.length →
    (∀ k', k0 ≤ k' → scullerref07_Cut.l1 k' s b (x9 ++ [x12 ++ wordsL d (b.drop q)]) ((q + 8 * d : Nat) : Int) (wrap64 ((i : Int) + 1)) = R) → d + k0 < k → scullerref07_Cut.l2 k s b x9 (q : Int) (i : Int) x12 (j : Int) = R := by
  intro d
  induction d with
  | zero =>
    intro k j q x12 hj hl hq hR hk
    obtain ⟨k, rfl⟩ : ∃ j, k = j + 1 := ⟨k - 1, by omega⟩
    have := hR k (by omega)
    rw [wordsL, List.append_nil, Nat.mul_zero, Nat.add_zero] at this
    rw [scullerref07_Cut.l2, if_pos (by omega), if_pos (by omega), if_neg (by omega), if_pos (by omega), this]
  | succ d ih =>
    intro k j q x12 hj hl hq hR hk
    obtain ⟨k, rfl⟩ : ∃ j, k = j + 1 := ⟨k - 1, by omega⟩
    have g1 : j + 1 + d = m := by omega
    have g2 : 8 * d + (q + 8) ≤ b.length := by omega
    have g3 : d + k0 < k := by omega
    have e8 := Aside0.mk (show wrap64 ((q : Int) + 8) = ((q + 8 : Nat) : Int) by rw [w64 (by omega) (by omega)]; omega)
    have ed : (b.take (q + 8)).drop q = (b.drop q).take 8 := by rw [List.drop_take]; congr 1; omega
    rw [scullerref07_Cut.l2, if_pos (by omega), if_pos (by omega), if_pos (by omega), if_pos (by omega), e8.out, if_pos (by omega), if_pos (by omega), Int.toNat_natCast, Int.toNat_natCast, ed, ref_get_eq k (by omega) _ ((hB.drop _).take _), Option.bind_some, if_pos (by omega), w64 (x := (j : Int) + 1) (by omega) (by omega), show (j : Int) + 1 = ((j + 1 : Nat) : Int) by omega]
    refine ih k (j + 1) (q + 8) _ g1 (by rw [List.length_append, List.length_singleton]; omega) g2 (fun k' hk' => ?_) g3
    have := hR k' hk'
    rw [show q + 8 * (d + 1) = q + 8 + 8 * d by omega, wordsL, List.drop_drop] at this
    rw [List.append_assoc, List.take_take, show min 8 8 = 8 from rfl]
    exact this
theorem rcut_l1 (s b : List Int) (hs : s.length ≤ 16) (h0 : ∀ x ∈ s, 0 ≤ x ∧ x ≤ 4096) (hB : Bytes b) (hbl : b.length < 140737488355328) : ∀ (d k i q : Nat) (x9 : List (List Int)), i + d = s.length → x9.length = i → (b.length : Int) = q + 8 * sumI (s.drop i) → d * 4200 + 10 < k →
    scullerref07_Cut.l1 k s b x9 (q : Int) (i : Int) = some (x9 ++ cutL (s.drop i) (b.drop q), 0) := by
  intro d
  induction d with
  | zero =>
    intro k i q x9 hi _ _ hk
    obtain ⟨k, rfl⟩ : ∃ j, k = j + 1 := ⟨k - 1, by omega⟩
    rw [scullerref07_Cut.l1, if_neg (by omega), List.drop_of_length_le (l := s) (by omega)]
    simp [cutL]
  | succ d ih =>
    intro k i q x9 hi h9 hl hk
    obtain ⟨k, rfl⟩ : ∃ j, k = j + 1 := ⟨k - 1, by omega⟩
    have hil : i < s.length := by omega
    have hx : 0 ≤ rd s (i : Int) ∧ rd s (i : Int) ≤ 4096 := by
      unfold rd
      rw [Int.toNat_natCast, List.getD_eq_getElem?_getD, List.getElem?_eq_getElem hil]
      exact h0 _ (List.getElem_mem hil)
    obtain ⟨m, hm⟩ : ∃ m : Nat, rd s (i : Int) = (m : Int) := ⟨(rd s (i : Int)).toNat, by omega⟩
    have hd := drop_rd hil
    have hpos := (mem_le_sum (s.drop (i + 1)) (fun x hx => (h0 x (List.mem_of_mem_drop hx)).1)).1
    rw [hd, sumI, hm] at hl
    rw [scullerref07_Cut.l1, if_pos (by omega)]
    refine rcut_l2 s b i hil x9 (by omega) m hm (by omega) hB hbl _ (d * 4200 + 20) (by omega) m k 0 q [] (by omega) rfl (by omega) (fun k' hk' => ?_) (by omega)
    rw [w64 (x := (i : Int) + 1) (by omega) (by omega), show (i : Int) + 1 = ((i + 1 : Nat) : Int) by omega, ih k' (i + 1) (q + 8 * m) (x9 ++ [[] ++ wordsL m (b.drop q)]) (by omega) (by rw [List.length_append, List.length_singleton]; omega) (by omega) (Nat.lt_of_lt_of_le (Nat.add_lt_add_left (by decide) _) hk')]
    rw [hd, cutL, hm, Int.toNat_natCast, List.append_assoc, List.drop_drop]; rfl
theorem rcut_l0 (s b : List Int) (hs : s.length ≤ 16) (h0 : ∀ x ∈ s, 0 ≤ x) (hm : sumI s ≤ 4096) (hB : Bytes b) (hbl : b.length < 140737488355328) (h4 : ∀ x ∈ s, 0 ≤ x ∧ x ≤ 4096) : ∀ (d k i : Nat), i + d = s.length → d + 70000 < k →
    scullerref07_Cut.l0 k s b (sumI (s.take i)) (i : Int) = some (if (b.length : Int) = 8 * sumI s then (cutL s b, 0) else ([], 10)) := by
  intro d
  induction d with
  | zero =>
    intro k i hi hk
    obtain ⟨k, rfl⟩ : ∃ j, k = j + 1 := ⟨k - 1, by omega⟩
    have b0 := (mem_le_sum s h0).1
    rw [scullerref07_Cut.l0, if_neg (by omega), List.take_of_length_le (by omega), w64 (x := 8 * sumI s) (by omega) (by omega)]
    by_cases h : (b.length : Int) = 8 * sumI s
    · rw [if_pos (by omega), if_pos h]
      have := rcut_l1 s b hs h4 hB hbl s.length k 0 0 [] (by omega) rfl (by simpa using h) (by omega)
      simpa using this
    · rw [if_neg (by omega), if_neg h]
  | succ d ih =>
    intro k i hi hk
    obtain ⟨k, rfl⟩ : ∃ j, k = j + 1 := ⟨k - 1, by omega⟩
    have e := sum_take_succ (s := s) (i := i) (by omega)
    have b1 := sum_take_le h0 (i + 1)
    rw [scullerref07_Cut.l0, if_pos (by omega), if_pos (by omega), ← e, w64 (by omega) (by omega), w64 (x := (i : Int) + 1) (by omega) (by omega)]
    exact ih k (i + 1) (by omega) (by omega)
theorem rcut_eq (s b : List Int) (hB : Bytes b) (hbl : b.length < 140737488355328) (k : Nat) (hk : 70100 < k) : scullerref07_Cut.f k s b = some (cutF s b) := by
  unfold scullerref07_Cut.f cutF
  rw [rfits_eq s k (by omega), Option.bind_some]
  by_cases hf : fitsB s = true
  · obtain ⟨_, h16, _, h0, hm⟩ := (fitsB_iff s).1 hf
    rw [if_pos hf, if_pos hf]
    have := rcut_l0 s b h16 h0 hm hB hbl (fits_mem hf) s.length k 0 (by omega) (by omega)
    simpa [sumI] using this
  · rw [if_neg hf, if_neg hf]
end Go.Proofs.Ytcjicfpdmegckaa.A

namespace Go.Proofs.Ytcjicfpdmegckaa.A
set_option linter.unusedVariables false
open Go.RowKit Go.Proofs.YtcjicfpdmegckaaW.PrintWords Go.Proofs.YtcjicfpdmegckaaW.PrintLast Go.Proofs.YtcjicfpdmegckaaW.PrintMore Go.Proofs.Ytcjicfpdmegckaa.Num Go.Proofs.Ytcjicfpdmegckaa.CrcN

theorem rsame_l1 (a b : List (List Int)) (i : Nat) (hi : i < a.length) (hib : i < b.length) (hla : a.length < 9223372036854775807) (hn : (rd_L3 a (i : Int)).length = (rd_L3 b (i : Int)).length) (hl : (rd_L3 a (i : Int)).length < 9223372036854775807) (R : Bool) (k0 : Nat)
    (hR : ∀ k, k0 ≤ k → scullerref07_Same.l0 k a b (wrap64 ((i : Int) + 1)) = some R) : ∀ (d k j : Nat), j + d = (rd_L3 a (i : Int)).length → d + k0 < k →
    scullerref07_Same.l1 k a b (i : Int) (j : Int) = some (decide ((rd_L3 a (i : Int)).drop j = (rd_L3 b (i : Int)).drop j) && R) := by
  generalize hx : rd_L3 a (i : Int) = x at hn hl ⊢
  generalize hy : rd_L3 b (i : Int) = y at hn hl ⊢
  intro d
  induction d with
  | zero =>
    intro k j hj hk
    obtain ⟨k, rfl⟩ : ∃ q, k = q + 1 := ⟨k - 1, by omega⟩
    rw [scullerref07_Same.l1, if_pos (by omega), if_pos (by omega), hx, if_neg (by omega), hR k (by omega), List.drop_of_length_le (by omega), List.drop_of_length_le (by omega)]; simp
  | succ d ih =>
    intro k j hj hk
    obtain ⟨k, rfl⟩ : ∃ q, k = q + 1 := ⟨k - 1, by omega⟩
    have := ih k (j + 1) (by omega) (by omega)
    rw [show ((j + 1 : Nat) : Int) = (j : Int) + 1 by omega] at this
    rw [scullerref07_Same.l1, if_pos (by omega), if_pos (by omega), hx, hy, if_pos (by omega), if_pos (by omega), if_pos (by omega), if_pos (by omega), drop_rd (s := x) (by omega), drop_rd (s := y) (by omega)]
    by_cases he : rd x (j : Int) = rd y (j : Int)
    · rw [if_pos he, w64 (x := (j : Int) + 1) (by omega) (by omega), this]
      simp [he]
    · rw [if_neg he]
      simp [he]
theorem rsame_l0 (a b : List (List Int)) (hab : a.length = b.length) (hl : a.length < 9223372036854775807) (M : Nat) (hM : M < 9223372036854775807) (hs : ∀ s ∈ a, s.length ≤ M) : ∀ (d k i : Nat), i + d = a.length → d * (M + 3) + 3 < k → scullerref07_Same.l0 k a b (i : Int) = some (decide (a.drop i = b.drop i)) := by
  intro d
  induction d with
  | zero =>
    intro k i hi hk
    obtain ⟨k, rfl⟩ : ∃ j, k = j + 1 := ⟨k - 1, by omega⟩
    rw [scullerref07_Same.l0, if_neg (by omega), List.drop_of_length_le (by omega), List.drop_of_length_le (by omega)]; simp
  | succ d ih =>
    intro k i hi hk
    obtain ⟨k, rfl⟩ : ∃ j, k = j + 1 := ⟨k - 1, by omega⟩
    have hm := hs _ (rdL_mem (s := a) (i := i) (by omega))
    have hmul : (d + 1) * (M + 3) = d * (M + 3) + (M + 3) := Nat.succ_mul _ _
    rw [scullerref07_Same.l0, if_pos (by omega), drop_rdL (s := a) (by omega), drop_rdL (s := b) (by omega)]
    (repeat rw [if_pos (by omega)])
    by_cases hn : ((rd_L3 a (i : Int)).length : Int) = ((rd_L3 b (i : Int)).length : Int)
    · rw [if_pos hn]
      have h1 := rsame_l1 a b i (by omega) (by omega) hl (by omega) (by omega) (decide (a.drop (i + 1) = b.drop (i + 1))) (d * (M + 3) + 4) (fun k' hk' => by
        rw [w64 (x := (i : Int) + 1) (by omega) (by omega)]
        have := ih k' (i + 1) (by omega) (by omega)
        rw [show ((i + 1 : Nat) : Int) = (i : Int) + 1 by omega] at this
        exact this) (rd_L3 a (i : Int)).length k 0 (by omega) (by omega)
      rw [show ((0 : Nat) : Int) = 0 from rfl] at h1
      rw [h1]
      simp
    · rw [if_neg hn]
      have : rd_L3 a (i : Int) ≠ rd_L3 b (i : Int) := fun h => hn (by rw [h])
      simp [this]
theorem rsame_eq (a b : List (List Int)) (hl : a.length < 9223372036854775807) (M : Nat) (hM : M < 9223372036854775807) (hs : ∀ s ∈ a, s.length ≤ M) (k : Nat) (hk : a.length * (M + 3) + 3 < k) : scullerref07_Same.f k a b = some (decide (a = b)) := by
  unfold scullerref07_Same.f
  by_cases h : (a.length : Int) = (b.length : Int)
  · rw [if_pos h]
    have := rsame_l0 a b (by omega) hl M hM hs a.length k 0 (by omega) (by omega)
    simpa using this
  · rw [if_neg h, decide_eq_false]
    rintro rfl; exact h rfl
end Go.Proofs.Ytcjicfpdmegckaa.A
