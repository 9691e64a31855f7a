/- What Within and Place compute, the program's and the document's. Conditions: those in each theorem. -/
/- What Sizes, Right and Bytes of arenas compute. Conditions: those in each theorem. -/
/- What arena.Cut computes: words out of bytes, cut by sizes; bytes that came of words are these words again. Conditions: those in each theorem. -/
/- What arena.Same tells: whether two arenas are the same. Conditions: those in each theorem. -/
/- The chapter's example of arenas holds. Conditions: none. -/
import Derived.Test.YtcjicfpdmegckaaAx1
import Derived.Test.YtcjicfpdmegckaaAx2
import Derived.Test.YtcjicfpdmegckaaAx5
import Derived.Test.YtcjicfpdmegckaaAx6
import Derived.Test.YtcjicfpdmegckaaAAAre
import Derived.Test.YtcjicfpdmegckaaAx3
import Derived.Test.YtcjicfpdmegckaaAgABytes
import Derived.Test.YtcjicfpdmegckaaAx16
import Derived.Test.YtcjicfpdmegckaaAABase
import Derived.Test.YtcjicfpdmegckaaAx13
import Derived.Test.YtcjicfpdmegckaaCrcN
import Derived.Test.YtcjicfpdmegckaaAx4
namespace Go.Proofs.Ytcjicfpdmegckaa.A
set_option linter.unusedVariables false
open Go.RowKit Go.Proofs.YtcjicfpdmegckaaW.PrintWords Go.Proofs.YtcjicfpdmegckaaW.PrintLast Go.Proofs.YtcjicfpdmegckaaW.PrintMore Go.Proofs.Ytcjicfpdmegckaa.Num Go.Proofs.Ytcjicfpdmegckaa.CrcN

/-- whole numbers of 64 bits -/
def I64s (l : List Int) : Prop := ∀ x ∈ l, -9223372036854775808 ≤ x ∧ x ≤ 9223372036854775807
theorem rd_i64 {l : List Int} (h : I64s l) (i : Int) : -9223372036854775808 ≤ rd l i ∧ rd l i ≤ 9223372036854775807 := by
  unfold rd
  rw [List.getD_eq_getElem?_getD]
  by_cases hi : i.toNat < l.length
  · rw [List.getElem?_eq_getElem hi]; exact h _ (List.getElem_mem hi)
  · rw [List.getElem?_eq_none (by omega)]; simp
/-- are n words from at on in the segment seg -/
def withinB (s : List Int) (seg at_ n : Int) : Bool := decide (0 ≤ seg ∧ seg < s.length ∧ 0 ≤ at_ ∧ 0 ≤ n ∧ at_ ≤ rd s seg ∧ n ≤ rd s seg - at_)
/-- where a word stands; below 0: nowhere -/
def placeI (s : List Int) (seg at_ : Int) : Int := if fitsB s = true then (if withinB s seg at_ 1 = true then at_ + sumI (s.take seg.toNat) else -1) else -1
theorem add_told {a b m : Int} (ha : -9223372036854775808 ≤ a ∧ a ≤ 9223372036854775807) (hb : -9223372036854775808 ≤ b ∧ b ≤ 9223372036854775807) (hm : -9223372036854775808 ≤ m ∧ m ≤ 9223372036854775807) :
    ∃ z, word_Add.f a b m = some (z, decide (0 ≤ a ∧ 0 ≤ b ∧ a ≤ m ∧ b ≤ m - a)) := by
  unfold word_Add.f
  by_cases h0 : mn a b < 0
  · rw [if_pos h0]
    exact ⟨_, by rw [decide_eq_false]; unfold mn at h0; split at h0 <;> omega⟩
  · rw [if_neg h0]
    have hab : 0 ≤ a ∧ 0 ≤ b := by unfold mn at h0; split at h0 <;> omega
    by_cases h1 : a > m
    · rw [if_pos h1]; exact ⟨_, by rw [decide_eq_false (by omega)]⟩
    · rw [if_neg h1, w64 (x := m - a) (by omega) (by omega)]
      by_cases h2 : b > m - a
      · rw [if_pos h2]; exact ⟨_, by rw [decide_eq_false (by omega)]⟩
      · rw [if_neg h2]; exact ⟨_, by rw [decide_eq_true (by omega)]⟩
theorem within_eq {s : List Int} (hs : I64s s) {seg at_ n : Int} (ha : -9223372036854775808 ≤ at_ ∧ at_ ≤ 9223372036854775807) (hn : -9223372036854775808 ≤ n ∧ n ≤ 9223372036854775807) : arena_Within.f s seg at_ n = some (withinB s seg at_ n) := by
  unfold arena_Within.f withinB
  by_cases h0 : seg < 0
  · rw [if_pos h0, decide_eq_false (by omega)]
  · rw [if_neg h0]
    by_cases h1 : seg ≥ (s.length : Int)
    · rw [if_pos h1, decide_eq_false (by omega)]
    · obtain ⟨z, e⟩ := add_told ha hn (rd_i64 hs seg)
      rw [if_neg h1, if_pos (by omega), if_pos (by omega), e, Option.bind_some]
      congr 1
      exact decide_eq_decide.2 (by omega)
theorem rwithin_eq {s : List Int} (hs : I64s s) {seg at_ n : Int} : scullerref07_Within.f s seg at_ n = some (withinB s seg at_ n) := by
  have hr := rd_i64 hs seg
  unfold scullerref07_Within.f withinB
  by_cases h0 : seg ≥ 0
  · by_cases h1 : seg < (s.length : Int)
    · by_cases h2 : at_ ≥ 0
      · by_cases h3 : n ≥ 0
        · rw [if_pos h0, if_pos h1, if_pos h2, if_pos h3, if_pos h0]
          by_cases h4 : at_ ≤ rd s seg
          · rw [if_pos h4, w64 (by omega) (by omega)]
            congr 1
            exact decide_eq_decide.2 (by omega)
          · rw [if_neg h4, decide_eq_false (by omega)]
        · rw [if_pos h0, if_pos h1, if_pos h2, if_neg h3, decide_eq_false (by omega)]
      · rw [if_pos h0, if_pos h1, if_neg h2, decide_eq_false (by omega)]
    · rw [if_pos h0, if_neg h1, decide_eq_false (by omega)]
  · rw [if_neg h0, decide_eq_false (by omega)]
theorem rd_take {l : List Int} {m i : Nat} (h : i < m) : rd (l.take m) (i : Int) = rd l (i : Int) := by
  unfold rd
  rw [Int.toNat_natCast, List.getD_eq_getElem?_getD, List.getD_eq_getElem?_getD, List.getElem?_take_of_lt h]
theorem take_rd {s : List Int} {i : Nat} (h : i < s.length) : s.take (i + 1) = s.take i ++ [rd s (i : Int)] := by
  unfold rd
  rw [List.take_succ_eq_append_getElem h, Int.toNat_natCast, List.getD_eq_getElem?_getD, List.getElem?_eq_getElem h]; rfl
theorem sum_take_succ {s : List Int} {i : Nat} (h : i < s.length) : sumI (s.take (i + 1)) = sumI (s.take i) + rd s (i : Int) := by rw [take_rd h, sumI_append]; simp [sumI]
theorem sum_take_le {s : List Int} (h0 : ∀ x ∈ s, 0 ≤ x) (i : Nat) : 0 ≤ sumI (s.take i) ∧ sumI (s.take i) ≤ sumI s := by
  have b1 := mem_le_sum (s.take i) (fun x hx => h0 x (List.mem_of_mem_take hx))
  have b2 := mem_le_sum (s.drop i) (fun x hx => h0 x (List.mem_of_mem_drop hx))
  have b3 : sumI s = sumI (s.take i) + sumI (s.drop i) := by rw [← sumI_append, List.take_append_drop]
  omega
theorem place_l0 (s : List Int) (h0 : ∀ x ∈ s, 0 ≤ x) (hm : sumI s ≤ 4096) (hs : s.length ≤ 16) (a : Int) (ha : 0 ≤ a ∧ a ≤ 4096) (m : Nat) (hmm : m ≤ s.length) : ∀ (d k i : Nat), i + d = m → d < k → arena_Place.l0 k (a + sumI (s.take i)) (s.take m) ((s.take m).length : Int) (i : Int) = some (a + sumI (s.take m)) := by
  have hl : (s.take m).length = m := by rw [List.length_take]; omega
  intro d
  induction d with
  | zero =>
    intro k i hi hk
    obtain ⟨k, rfl⟩ : ∃ j, k = j + 1 := ⟨k - 1, by omega⟩
    obtain rfl : i = m := by omega
    rw [arena_Place.l0, if_neg (by omega)]
  | succ d ih =>
    intro k i hi hk
    obtain ⟨k, rfl⟩ : ∃ j, k = j + 1 := ⟨k - 1, by omega⟩
    have b := sum_take_le h0 i
    have b2 := sum_take_le h0 (i + 1)
    have e := sum_take_succ (s := s) (i := i) (by omega)
    rw [arena_Place.l0, if_pos (by omega), if_pos (by omega), if_pos (by omega), rd_take (by omega), show a + sumI (s.take i) + rd s (i : Int) = a + sumI (s.take (i + 1)) by omega, w64 (x := a + _) (by omega) (by omega), w64 (x := (i : Int) + 1) (by omega) (by omega)]
    exact ih k (i + 1) (by omega) (by omega)
theorem rplace_l0 (s : List Int) (h0 : ∀ x ∈ s, 0 ≤ x) (hm : sumI s ≤ 4096) (hs : s.length ≤ 16) (a : Int) (ha : 0 ≤ a ∧ a ≤ 4096) (m : Nat) (hmm : m ≤ s.length) (z : Int) : ∀ (d k i : Nat), i + d = m → d < k → scullerref07_Place.l0 k s (m : Int) (a + sumI (s.take i)) (i : Int) = some (a + sumI (s.take m)) := by
  intro d
  induction d with
  | zero =>
    intro k i hi hk
    obtain ⟨k, rfl⟩ : ∃ j, k = j + 1 := ⟨k - 1, by omega⟩
    obtain rfl : i = m := by omega
    rw [scullerref07_Place.l0, if_neg (by omega)]
  | succ d ih =>
    intro k i hi hk
    obtain ⟨k, rfl⟩ : ∃ j, k = j + 1 := ⟨k - 1, by omega⟩
    have b := sum_take_le h0 i
    have b2 := sum_take_le h0 (i + 1)
    have e := sum_take_succ (s := s) (i := i) (by omega)
    rw [scullerref07_Place.l0, if_pos (by omega), if_pos (by omega), if_pos (by omega), show a + sumI (s.take i) + rd s (i : Int) = a + sumI (s.take (i + 1)) by omega, w64 (x := a + _) (by omega) (by omega), w64 (x := (i : Int) + 1) (by omega) (by omega)]
    exact ih k (i + 1) (by omega) (by omega)
theorem within_bd {s : List Int} (hf : fitsB s = true) {seg at_ n : Int} (h : withinB s seg at_ n = true) : 0 ≤ seg ∧ seg < s.length ∧ 0 ≤ at_ ∧ at_ ≤ 4096 := by
  have h' := of_decide_eq_true h
  have hm := fits_mem hf (rd s seg) (by
    unfold rd; rw [List.getD_eq_getElem?_getD, List.getElem?_eq_getElem (show seg.toNat < s.length by omega)]; exact List.getElem_mem _)
  omega
theorem place_eq {s : List Int} (hs : I64s s) {seg at_ : Int} (ha : -9223372036854775808 ≤ at_ ∧ at_ ≤ 9223372036854775807) (k : Nat) (hk : 30 < k) : arena_Place.f k s seg at_ = some (placeI s seg at_) := by
  obtain ⟨k, rfl⟩ : ∃ j, k = j + 1 := ⟨k - 1, by omega⟩
  unfold arena_Place.f placeI
  rw [fits_eq s (k + 1) (by omega), Option.bind_some]
  by_cases hf : fitsB s = true
  · rw [if_pos hf, if_pos hf, within_eq hs ha (by omega), Option.bind_some, arena_Place.j0]
    by_cases hw : withinB s seg at_ 1 = true
    · obtain ⟨h1, h2, h3, h4⟩ := within_bd hf hw
      obtain ⟨_, h16, _, h0, hm⟩ := (fitsB_iff s).1 hf
      obtain ⟨m, rfl⟩ : ∃ m : Nat, seg = (m : Int) := ⟨seg.toNat, by omega⟩
      rw [hw, if_neg (by simp), if_pos h1, if_pos (by omega), if_pos rfl, Int.toNat_natCast]
      have := place_l0 s h0 hm h16 at_ ⟨h3, h4⟩ m (by omega) m k 0 (by omega) (by omega)
      simpa [sumI] using this
    · rw [if_neg hw, Bool.eq_false_iff.2 hw, if_pos (show (!false) = true from rfl)]
  · rw [if_neg hf, if_neg hf, arena_Place.j0, if_pos rfl]
theorem rplace_eq {s : List Int} (hs : I64s s) {seg at_ : Int} (k : Nat) (hk : 30 < k) : scullerref07_Place.f k s seg at_ = some (placeI s seg at_) := by
  obtain ⟨k, rfl⟩ : ∃ j, k = j + 1 := ⟨k - 1, by omega⟩
  unfold scullerref07_Place.f placeI
  rw [rfits_eq s (k + 1) (by omega), Option.bind_some]
  by_cases hf : fitsB s = true
  · rw [if_pos hf, if_pos hf, rwithin_eq hs, Option.bind_some, scullerref07_Place.j0]
    by_cases hw : withinB s seg at_ 1 = true
    · obtain ⟨h1, h2, h3, h4⟩ := within_bd hf hw
      obtain ⟨_, h16, _, h0, hm⟩ := (fitsB_iff s).1 hf
      obtain ⟨m, rfl⟩ : ∃ m : Nat, seg = (m : Int) := ⟨seg.toNat, by omega⟩
      rw [hw, if_neg (by simp), if_pos rfl, Int.toNat_natCast]
      have := rplace_l0 s h0 hm h16 at_ ⟨h3, h4⟩ m (by omega) 0 m k 0 (by omega) (by omega)
      simpa [sumI] using this
    · rw [if_neg hw, Bool.eq_false_iff.2 hw, if_pos (show (!false) = true from rfl)]
  · rw [if_neg hf, if_neg hf, scullerref07_Place.j0, if_pos rfl]
end Go.Proofs.Ytcjicfpdmegckaa.A

namespace Go.Proofs.Ytcjicfpdmegckaa.A
set_option linter.unusedVariables false
open Go.RowKit Go.Proofs.YtcjicfpdmegckaaW.PrintWords Go.Proofs.YtcjicfpdmegckaaW.PrintLast Go.Proofs.YtcjicfpdmegckaaW.PrintMore Go.Proofs.Ytcjicfpdmegckaa.Num Go.Proofs.Ytcjicfpdmegckaa.CrcN

theorem lens_take_rd {a : List (List Int)} {i : Nat} (h : i < a.length) : lens (a.take (i + 1)) = lens (a.take i) ++ [((rd_L3 a (i : Int)).length : Int)] := by
  unfold rd_L3
  rw [List.take_succ_eq_append_getElem h, lens_append, Int.toNat_natCast, List.getD_eq_getElem?_getD, List.getElem?_eq_getElem h]; rfl
theorem sizes_l0 (a : List (List Int)) (hl : a.length < 17592186044416) : ∀ (d k i : Nat), i + d = a.length → d < k → arena_Sizes.l0 k (lens (a.take i)) a (a.length : Int) (i : Int) = some (lens a) := by
  intro d
  induction d with
  | zero =>
    intro k i hi hk
    obtain ⟨k, rfl⟩ : ∃ j, k = j + 1 := ⟨k - 1, by omega⟩
    rw [arena_Sizes.l0, if_neg (by omega), List.take_of_length_le (by omega)]
  | succ d ih =>
    intro k i hi hk
    obtain ⟨k, rfl⟩ : ∃ j, k = j + 1 := ⟨k - 1, by omega⟩
    have hll : (lens (a.take i)).length < 17592186044416 := by simp only [lens, List.length_map, List.length_take]; omega
    rw [arena_Sizes.l0, if_pos (by omega), if_pos (by omega), if_pos (by omega), if_pos (by omega), ← lens_take_rd (by omega), w64 (x := (i : Int) + 1) (by omega) (by omega)]
    exact ih k (i + 1) (by omega) (by omega)
theorem sizes_eq (a : List (List Int)) (hl : a.length < 17592186044416) (k : Nat) (hk : a.length < k) : arena_Sizes.f k a = some (lens a) := by
  unfold arena_Sizes.f
  have := sizes_l0 a hl a.length k 0 (by omega) hk
  simpa [lens] using this
theorem aright_eq (a : List (List Int)) (hl : a.length < 17592186044416) (k : Nat) (hk : a.length < k) (hk2 : 20 < k) : arena_Right.f k a = some (fitsB (lens a)) := by
  unfold arena_Right.f
  rw [sizes_eq a hl k hk, Option.bind_some, fits_eq _ k hk2, Option.bind_some]
theorem put8_eq (x : Int) : put8 x = putL x 8 := by
  have a8 : asked 8 = 8 := by decide
  unfold put8
  rw [put_eq 9 (by omega), a8]; rfl
theorem flat_wbytes (l : List Int) : l.flatMap put8 = wbytes l := by
  induction l with
  | nil => rfl
  | cons x t ih => rw [List.flatMap_cons, ih, put8_eq]; rfl
theorem abytes_eq {a : List (List Int)} (h : a.flatten.length < 8796093022208) : arena_Bytes.f a = some (wbytes a.flatten) := by
  unfold arena_Bytes.f; rw [if_pos h, flat_wbytes]
theorem awords_eq {a : List (List Int)} (h : a.flatten.length < 140737488355328) : arena_Words.f a = some (a.flatten.length : Int) := by
  unfold arena_Words.f; rw [if_pos h]
end Go.Proofs.Ytcjicfpdmegckaa.A

namespace Go.Proofs.Ytcjicfpdmegckaa.A
set_option linter.unusedVariables false
open Go.RowKit Go.Proofs.YtcjicfpdmegckaaW.PrintWords Go.Proofs.YtcjicfpdmegckaaW.PrintLast Go.Proofs.YtcjicfpdmegckaaW.PrintMore Go.Proofs.Ytcjicfpdmegckaa.Num Go.Proofs.Ytcjicfpdmegckaa.CrcN

/-- so many words out of bytes -/
def wordsL : Nat → List Int → List Int
  | 0, _ => []
  | m + 1, b => getL (b.take 8) :: wordsL m (b.drop 8)
/-- words out of bytes, cut by sizes -/
def cutL : List Int → List Int → List (List Int)
  | [], _ => []
  | x :: t, b => wordsL x.toNat b :: cutL t (b.drop (8 * x.toNat))
/-- what Cut tells -/
def cutF (s b : List Int) : List (List Int) × Int := if fitsB s = true then (if (b.length : Int) = 8 * sumI s then (cutL s b, 0) else ([], 10)) else ([], 1)
theorem wordsL_length : ∀ (m : Nat) (b : List Int), (wordsL m b).length = m := by
  intro m
  induction m with
  | zero => intro b; rfl
  | succ m ih => intro b; simp [wordsL, ih]
theorem cut_l2 (s : List Int) (n i : Int) (x9 : List (List Int)) (h9 : x9.length ≤ 100) (m : Nat) (hm : m ≤ 4096) (R : Option (List (List Int) × Int)) (k0 : Nat) : ∀ (d : Nat) (k : Nat) (x1 x12 : List Int), x12.length + d = m → 8 * d ≤ x1.length → Bytes x1 →
    (∀ k', k0 ≤ k' → arena_Cut.l1 k' (x1.drop (8 * d)) (x9 ++ [x12 ++ wordsL d x1]) s n (wrap64 (i + 1)) = R) → d + k0 < k → arena_Cut.l2 k x1 x9 (m : Int) x12 s n i = R := by
  intro d
  induction d with
  | zero =>
    intro k x1 x12 hl _ _ hR hk
    obtain ⟨k, rfl⟩ : ∃ j, k = j + 1 := ⟨k - 1, by omega⟩
    have := hR k (by omega)
    rw [wordsL, List.append_nil, Nat.mul_zero, List.drop_zero] at this
    rw [arena_Cut.l2, if_pos (by omega), if_pos (by omega), this]
  | succ d ih =>
    intro k x1 x12 hl hb hB hR hk
    obtain ⟨k, rfl⟩ : ∃ j, k = j + 1 := ⟨k - 1, by omega⟩
    rw [arena_Cut.l2, if_neg (by omega), get_eq x1 hB, Option.bind_some, if_pos (by omega), if_pos (by omega)]
    refine ih k (x1.drop 8) (x12 ++ [getL (x1.take 8)]) (by rw [List.length_append, List.length_singleton]; omega) (by rw [List.length_drop]; omega) (hB.drop 8) (fun k' hk' => ?_) (by omega)
    have := hR k' hk'
    rw [show 8 * (d + 1) = 8 + 8 * d by omega, ← List.drop_drop, wordsL] at this
    rw [List.append_assoc]
    exact this
theorem cut_l1 (s : List Int) (hs : s.length ≤ 16) (h0 : ∀ x ∈ s, 0 ≤ x ∧ x ≤ 4096) : ∀ (d k i : Nat) (x1 : List Int) (x9 : List (List Int)), i + d = s.length → x9.length = i → (x1.length : Int) = 8 * sumI (s.drop i) → Bytes x1 → d * 4200 + 10 < k →
    arena_Cut.l1 k x1 x9 s (s.length : Int) (i : Int) = some (x9 ++ cutL (s.drop i) x1, 0) := by
  intro d
  induction d with
  | zero =>
    intro k i x1 x9 hi _ _ _ hk
    obtain ⟨k, rfl⟩ : ∃ j, k = j + 1 := ⟨k - 1, by omega⟩
    rw [arena_Cut.l1, if_neg (by omega), List.drop_of_length_le (by omega)]
    simp [cutL]
  | succ d ih =>
    intro k i x1 x9 hi h9 hl hB hk
    obtain ⟨k, rfl⟩ : ∃ j, k = j + 1 := ⟨k - 1, by omega⟩
    have hil : i < s.length := by omega
    have hx : 0 ≤ rd s (i : Int) ∧ rd s (i : Int) ≤ 4096 := by
      unfold rd
      rw [Int.toNat_natCast, List.getD_eq_getElem?_getD, List.getElem?_eq_getElem hil]
      exact h0 _ (List.getElem_mem hil)
    obtain ⟨m, hm⟩ : ∃ m : Nat, rd s (i : Int) = (m : Int) := ⟨(rd s (i : Int)).toNat, by omega⟩
    have hd := drop_rd hil
    have hpos := (mem_le_sum (s.drop (i + 1)) (fun x hx => (h0 x (List.mem_of_mem_drop hx)).1)).1
    rw [hd, sumI, hm] at hl
    have hld : ((x1.drop (8 * m)).length : Int) = 8 * sumI (s.drop (i + 1)) := by
      have h_ : (x1.drop (8 * m)).length = x1.length - 8 * m := List.length_drop
      generalize sumI (s.drop (i + 1)) = z at hl hpos ⊢
      omega
    rw [arena_Cut.l1, if_pos (by omega), if_pos (by omega), if_pos (by omega), hm]
    refine cut_l2 s _ _ x9 (by omega) m (by omega) _ (d * 4200 + 20) m k x1 [] (by simp) (by omega) hB (fun k' hk' => ?_) (by omega)
    rw [w64 (x := (i : Int) + 1) (by omega) (by omega), show (i : Int) + 1 = ((i + 1 : Nat) : Int) by omega, ih k' (i + 1) (x1.drop (8 * m)) (x9 ++ [[] ++ wordsL m x1]) (by omega) (by rw [List.length_append, List.length_singleton]; omega) hld (hB.drop _) (Nat.lt_of_lt_of_le (Nat.add_lt_add_left (by decide) _) hk')]
    rw [hd, cutL, hm, Int.toNat_natCast, List.append_assoc]; rfl
theorem cut_l0 (s b : List Int) (hs : s.length ≤ 16) (h0 : ∀ x ∈ s, 0 ≤ x) (hm : sumI s ≤ 4096) (hB : Bytes b) (hbl : b.length < 140737488355328) (h4 : ∀ x ∈ s, 0 ≤ x ∧ x ≤ 4096) : ∀ (d k i : Nat), i + d = s.length → d + 70000 < k →
    arena_Cut.l0 k s b (sumI (s.take i)) s (s.length : Int) (i : Int) = some (if (b.length : Int) = 8 * sumI s then (cutL s b, 0) else ([], 10)) := by
  intro d
  induction d with
  | zero =>
    intro k i hi hk
    obtain ⟨k, rfl⟩ : ∃ j, k = j + 1 := ⟨k - 1, by omega⟩
    have b0 := (mem_le_sum s h0).1
    rw [arena_Cut.l0, if_neg (by omega), List.take_of_length_le (by omega), w64 (x := sumI s * 8) (by omega) (by omega)]
    by_cases h : (b.length : Int) = 8 * sumI s
    · rw [if_pos (by omega), if_pos h]
      have := cut_l1 s hs h4 s.length k 0 b [] (by omega) rfl (by simpa using h) hB (by omega)
      simpa using this
    · rw [if_neg (by omega), if_neg h]
  | succ d ih =>
    intro k i hi hk
    obtain ⟨k, rfl⟩ : ∃ j, k = j + 1 := ⟨k - 1, by omega⟩
    have e := sum_take_succ (s := s) (i := i) (by omega)
    have b1 := sum_take_le h0 (i + 1)
    rw [arena_Cut.l0, if_pos (by omega), if_pos (by omega), if_pos (by omega), ← e, w64 (by omega) (by omega), w64 (x := (i : Int) + 1) (by omega) (by omega)]
    exact ih k (i + 1) (by omega) (by omega)
theorem cut_eq (s b : List Int) (hB : Bytes b) (hbl : b.length < 140737488355328) (k : Nat) (hk : 70100 < k) : arena_Cut.f k s b = some (cutF s b) := by
  unfold arena_Cut.f cutF
  rw [fits_eq s k (by omega), Option.bind_some]
  by_cases hf : fitsB s = true
  · obtain ⟨_, h16, _, h0, hm⟩ := (fitsB_iff s).1 hf
    rw [if_pos hf, if_pos hf]
    have := cut_l0 s b h16 h0 hm hB hbl (fits_mem hf) s.length k 0 (by omega) (by omega)
    simpa [sumI] using this
  · rw [if_neg hf, if_neg hf]
theorem wordsL_back (s : List Int) (hu : U64s s) (r : List Int) : wordsL s.length (wbytes s ++ r) = s := by
  induction s with
  | nil => rfl
  | cons x t ih =>
    have hx := hu x List.mem_cons_self
    have h8 : (256 : Int) ^ 8 = 18446744073709551616 := by decide
    have e : wbytes (x :: t) ++ r = putL x 8 ++ (wbytes t ++ r) := by simp only [wbytes, List.append_assoc]
    have hl : (putL x 8).length = 8 := putL_length x 8
    rw [List.length_cons, wordsL, e, List.take_left' hl, List.drop_left' hl, getL_putL, h8, Int.emod_eq_of_lt hx.1 (by omega), ih (fun z hz => hu z (List.mem_cons_of_mem _ hz))]
theorem cutL_back (a : List (List Int)) (hu : ∀ s ∈ a, U64s s) (r : List Int) : cutL (lens a) (wbytes a.flatten ++ r) = a := by
  induction a generalizing r with
  | nil => rfl
  | cons s t ih =>
    have e : wbytes (s :: t).flatten ++ r = wbytes s ++ (wbytes t.flatten ++ r) := by rw [List.flatten_cons, wbytes_append, List.append_assoc]
    have hl := wbytes_length s
    show cutL ((s.length : Int) :: lens t) _ = _
    rw [e, cutL, Int.toNat_natCast, wordsL_back s (hu s List.mem_cons_self), List.drop_left' hl, ih (fun z hz => hu z (List.mem_cons_of_mem _ hz))]
/-- bytes that came of an arena, cut by its sizes, are the arena -/
theorem cut_back {a : List (List Int)} (h : Aok a) : cutF (lens a) (wbytes a.flatten) = (a, 0) := by
  have e := cutL_back a h.u []
  rw [List.append_nil] at e
  unfold cutF
  have hf : fitsB (lens a) = true := h.f
  rw [if_pos hf, if_pos (by rw [wbytes_length]; have := flat_len a; omega), e]
end Go.Proofs.Ytcjicfpdmegckaa.A

namespace Go.Proofs.Ytcjicfpdmegckaa.A
set_option linter.unusedVariables false
open Go.RowKit Go.Proofs.YtcjicfpdmegckaaW.PrintWords Go.Proofs.YtcjicfpdmegckaaW.PrintLast Go.Proofs.YtcjicfpdmegckaaW.PrintMore Go.Proofs.Ytcjicfpdmegckaa.Num Go.Proofs.Ytcjicfpdmegckaa.CrcN

theorem equalU_l0 (a b : List Int) (hab : a.length = b.length) (hl : a.length < 9223372036854775807) : ∀ (d k i : Nat), i + d = a.length → d < k → slices_Equal_uint64_uint64.l0 k a b (a.length : Int) (i : Int) = some (decide (a.drop i = b.drop i)) := by
  intro d
  induction d with
  | zero =>
    intro k i hi hk
    obtain ⟨k, rfl⟩ : ∃ j, k = j + 1 := ⟨k - 1, by omega⟩
    rw [slices_Equal_uint64_uint64.l0, if_neg (by omega), List.drop_of_length_le (by omega), List.drop_of_length_le (by omega)]; simp
  | succ d ih =>
    intro k i hi hk
    obtain ⟨k, rfl⟩ : ∃ j, k = j + 1 := ⟨k - 1, by omega⟩
    have := ih k (i + 1) (by omega) (by omega)
    rw [show ((i + 1 : Nat) : Int) = (i : Int) + 1 by omega] at this
    rw [slices_Equal_uint64_uint64.l0, if_pos (by omega), drop_rd (s := a) (by omega), drop_rd (s := b) (by omega)]
    (repeat rw [if_pos (by omega)])
    by_cases he : rd a (i : Int) = rd b (i : Int)
    · simp only [he, if_true]
      rw [w64 (x := (i : Int) + 1) (by omega) (by omega), this]
      simp
    · simp only [he, if_false]
      simp [he]
theorem equalU_eq (a b : List Int) (hl : a.length < 9223372036854775807) (k : Nat) (hk : a.length < k) : slices_Equal_uint64_uint64.f k a b = some (decide (a = b)) := by
  unfold slices_Equal_uint64_uint64.f
  by_cases h : (a.length : Int) = (b.length : Int)
  · rw [if_pos h]
    have := equalU_l0 a b (by omega) hl a.length k 0 (by omega) (by omega)
    simpa using this
  · rw [if_neg h, decide_eq_false]
    rintro rfl; exact h rfl
theorem drop_rdL {s : List (List Int)} {i : Nat} (h : i < s.length) : s.drop i = rd_L3 s (i : Int) :: s.drop (i + 1) := by
  unfold rd_L3
  rw [Int.toNat_natCast, List.drop_eq_getElem_cons h, List.getD_eq_getElem?_getD, List.getElem?_eq_getElem h]; rfl
theorem rdL_mem {s : List (List Int)} {i : Nat} (h : i < s.length) : rd_L3 s (i : Int) ∈ s := by
  unfold rd_L3
  rw [Int.toNat_natCast, List.getD_eq_getElem?_getD, List.getElem?_eq_getElem h]; exact List.getElem_mem h
theorem eqF_l0 (a b : List (List Int)) (hab : a.length = b.length) (hl : a.length < 9223372036854775807) (M : Nat) (hM : M < 9223372036854775807) (hs : ∀ s ∈ a, s.length ≤ M) : ∀ (d k i : Nat), i + d = a.length → d + M + 1 < k → api_Arena_uint64_uint64.l0 k b a (a.length : Int) (i : Int) = some (decide (a.drop i = b.drop i)) := by
  intro d
  induction d with
  | zero =>
    intro k i hi hk
    obtain ⟨k, rfl⟩ : ∃ j, k = j + 1 := ⟨k - 1, by omega⟩
    rw [api_Arena_uint64_uint64.l0, if_neg (by omega), List.drop_of_length_le (by omega), List.drop_of_length_le (by omega)]; simp
  | succ d ih =>
    intro k i hi hk
    obtain ⟨k, rfl⟩ : ∃ j, k = j + 1 := ⟨k - 1, by omega⟩
    have := ih k (i + 1) (by omega) (by omega)
    have hm := hs _ (rdL_mem (s := a) (i := i) (by omega))
    rw [show ((i + 1 : Nat) : Int) = (i : Int) + 1 by omega] at this
    rw [api_Arena_uint64_uint64.l0, if_pos (by omega), drop_rdL (s := a) (by omega), drop_rdL (s := b) (by omega)]
    (repeat rw [if_pos (by omega)])
    rw [equalU_eq _ _ (by omega) k (by omega), Option.bind_some]
    by_cases he : rd_L3 a (i : Int) = rd_L3 b (i : Int)
    · rw [if_pos (decide_eq_true he), w64 (x := (i : Int) + 1) (by omega) (by omega), this]
      simp [he]
    · rw [if_neg (by simpa using he)]
      simp [he]
theorem same_eq (a b : List (List Int)) (hl : a.length < 9223372036854775807) (M : Nat) (hM : M < 9223372036854775807) (hs : ∀ s ∈ a, s.length ≤ M) (k : Nat) (hk : a.length + M + 1 < k) : arena_Same.f k a b = some (decide (a = b)) := by
  unfold arena_Same.f api_Arena_uint64_uint64.f
  by_cases h : (a.length : Int) = (b.length : Int)
  · rw [if_pos h]
    have := eqF_l0 a b (by omega) hl M hM hs a.length k 0 (by omega) (by omega)
    rw [show ((0 : Nat) : Int) = 0 from rfl] at this
    rw [this]; simp
  · rw [if_neg h, Option.bind_some, decide_eq_false]
    rintro rfl; exact h rfl
end Go.Proofs.Ytcjicfpdmegckaa.A

namespace Go.Proofs.Ytcjicfpdmegckaa.A
set_option linter.unusedVariables false
open Go.RowKit Go.Proofs.YtcjicfpdmegckaaW.PrintWords Go.Proofs.YtcjicfpdmegckaaW.PrintLast Go.Proofs.YtcjicfpdmegckaaW.PrintMore Go.Proofs.Ytcjicfpdmegckaa.Num Go.Proofs.Ytcjicfpdmegckaa.CrcN

theorem known07_eq (k : Nat) (hk : 40 < k) : scullerlaw07_known.f k = some true := by
  have e1 : arena_Word.f [[1, 2, 3], [4, 5]] 1 0 = some (4, 0) := by decide
  have e2 := place_eq (s := [3, 2]) (fun x hx => by simp at hx; omega) (seg := 1) (at_ := 0) (by omega) k (by omega)
  have e3 : placeI [3, 2] 1 0 = 3 := by decide
  have e4 := aright_eq [[1, 2, 3], [4, 5]] (by simp) k (by simp; omega) (by omega)
  have e5 : fitsB (lens [[1, 2, 3], [4, 5]]) = true := by decide
  have e6 := abytes_eq (a := [[1, 2, 3], [4, 5]]) (by simp)
  have e7 := awords_eq (a := [[1, 2, 3], [4, 5]]) (by simp)
  unfold scullerlaw07_known.f
  rw [Option.bind_some, e1, Option.bind_some, e2, Option.bind_some, e3, if_pos rfl, if_pos rfl, if_pos rfl, e4, Option.bind_some, e5, if_pos rfl, e6, Option.bind_some, if_pos (by rw [wbytes_length]; rfl), e7, Option.bind_some]
  rfl
end Go.Proofs.Ytcjicfpdmegckaa.A
