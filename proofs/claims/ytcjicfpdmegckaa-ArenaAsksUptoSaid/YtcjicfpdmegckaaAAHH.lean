/- ArenaAsks in plain lists: Right, Sizes, Words, Word, Bytes and Same of any segments (of not too many words), and of choices, are what the chapter says. Conditions: those in each theorem. -/
import Derived.Test.YtcjicfpdmegckaaAx15
import Derived.Test.YtcjicfpdmegckaaAx9
import Derived.Test.YtcjicfpdmegckaaAx12
import Derived.Test.YtcjicfpdmegckaaAABB
import Derived.Test.YtcjicfpdmegckaaAACC
import Derived.Test.YtcjicfpdmegckaaAAAre
import Derived.Test.YtcjicfpdmegckaaAADD
namespace Go.Proofs.Ytcjicfpdmegckaa.A
set_option linter.unusedVariables false
open Go.RowKit Go.Proofs.YtcjicfpdmegckaaW.PrintWords Go.Proofs.YtcjicfpdmegckaaW.PrintLast Go.Proofs.YtcjicfpdmegckaaW.PrintMore Go.Proofs.Ytcjicfpdmegckaa.Num Go.Proofs.Ytcjicfpdmegckaa.CrcN

theorem rd_lens {a : List (List Int)} {i : Nat} (h : i < a.length) : rd (lens a) (i : Int) = ((rd_L3 a (i : Int)).length : Int) := by
  unfold rd rd_L3 lens
  rw [Int.toNat_natCast, List.getD_eq_getElem?_getD, List.getD_eq_getElem?_getD, List.getElem?_map, List.getElem?_eq_getElem h]; rfl
theorem lens_lenA (a : List (List Int)) : (lens a).length = a.length := List.length_map _
theorem lwords_l0 (a : List (List Int)) (hT : a.flatten.length ≤ 100000000) (hl : a.length ≤ 10000000) : ∀ (d k i : Nat), i + d = a.length → d < k → scullerlaw07_words.l0 k a (sumI ((lens a).take i)) (i : Int) = some (a.flatten.length : Int) := by
  have hf := flat_len a
  intro d
  induction d with
  | zero =>
    intro k i hi hk
    obtain ⟨k, rfl⟩ : ∃ j, k = j + 1 := ⟨k - 1, by omega⟩
    rw [scullerlaw07_words.l0, if_neg (by omega), List.take_of_length_le (by rw [lens_lenA]; omega), hf]
  | succ d ih =>
    intro k i hi hk
    obtain ⟨k, rfl⟩ : ∃ j, k = j + 1 := ⟨k - 1, by omega⟩
    have e := sum_take_succ (s := lens a) (i := i) (by rw [lens_lenA]; omega)
    have b1 := sum_take_le (lens_pos a) (i + 1)
    rw [rd_lens (by omega)] at e
    rw [scullerlaw07_words.l0, if_pos (by omega), if_pos (by omega), ← e, w64 (by omega) (by omega), w64 (x := (i : Int) + 1) (by omega) (by omega)]
    exact ih k (i + 1) (by omega) (by omega)
theorem lwords_eq (a : List (List Int)) (hT : a.flatten.length ≤ 100000000) (hl : a.length ≤ 10000000) (k : Nat) (hk : a.length < k) : scullerlaw07_words.f k a = some (a.flatten.length : Int) := by
  unfold scullerlaw07_words.f
  have := lwords_l0 a hT hl a.length k 0 (by omega) hk
  simpa [sumI] using this
theorem rwords_l0' (a : List (List Int)) (hT : a.flatten.length ≤ 100000000) (hl : a.length ≤ 10000000) : ∀ (d k i : Nat), i + d = a.length → d < k → scullerref07_Words.l0 k a (sumI ((lens a).take i)) (i : Int) = some (a.flatten.length : Int) := by
  have hf := flat_len a
  intro d
  induction d with
  | zero =>
    intro k i hi hk
    obtain ⟨k, rfl⟩ : ∃ j, k = j + 1 := ⟨k - 1, by omega⟩
    rw [scullerref07_Words.l0, if_neg (by omega), List.take_of_length_le (by rw [lens_lenA]; omega), hf]
  | succ d ih =>
    intro k i hi hk
    obtain ⟨k, rfl⟩ : ∃ j, k = j + 1 := ⟨k - 1, by omega⟩
    have e := sum_take_succ (s := lens a) (i := i) (by rw [lens_lenA]; omega)
    have b1 := sum_take_le (lens_pos a) (i + 1)
    rw [rd_lens (by omega)] at e
    rw [scullerref07_Words.l0, if_pos (by omega), if_pos (by omega), ← e, w64 (by omega) (by omega), w64 (x := (i : Int) + 1) (by omega) (by omega)]
    exact ih k (i + 1) (by omega) (by omega)
theorem rwords07_eq (a : List (List Int)) (hT : a.flatten.length ≤ 100000000) (hl : a.length ≤ 10000000) (k : Nat) (hk : a.length < k) : scullerref07_Words.f k a = some (a.flatten.length : Int) := by
  unfold scullerref07_Words.f
  have := rwords_l0' a hT hl a.length k 0 (by omega) hk
  simpa [sumI] using this
/-- a word of a segment; what is told of it -/
def wordF (a : List (List Int)) (seg at_ : Int) : Int × Int := if 0 ≤ seg ∧ seg < a.length ∧ 0 ≤ at_ ∧ at_ < (rd_L3 a seg).length then (rd (rd_L3 a seg) at_, 0) else (0, 20)
theorem word_eq (a : List (List Int)) (seg at_ : Int) : arena_Word.f a seg at_ = some (wordF a seg at_) := by
  unfold arena_Word.f wordF
  by_cases h0 : seg < 0
  · rw [if_pos h0, if_neg (by omega)]
  · rw [if_neg h0]
    by_cases h1 : seg ≥ (a.length : Int)
    · rw [if_pos h1, if_neg (by omega)]
    · rw [if_neg h1]
      by_cases h2 : at_ < 0
      · rw [if_pos h2, if_neg (by omega)]
      · rw [if_neg h2, if_pos (by omega), if_pos (by omega)]
        by_cases h3 : at_ ≥ ((rd_L3 a seg).length : Int)
        · rw [if_pos h3, if_neg (by omega)]
        · rw [if_neg h3, if_pos (by omega), if_pos (by omega), if_pos (by omega)]
theorem rword_eq (a : List (List Int)) (hs : I64s (lens a)) (hl : a.length ≤ 10000000) (seg at_ : Int) (k : Nat) (hk : a.length < k) : scullerref07_Word.f k a seg at_ = some (wordF a seg at_) := by
  unfold scullerref07_Word.f wordF
  rw [rsizes_eq a (by omega) k hk, Option.bind_some, rwithin_eq hs, Option.bind_some]
  have hlen := lens_lenA a
  by_cases h : 0 ≤ seg ∧ seg < a.length ∧ 0 ≤ at_ ∧ at_ < (rd_L3 a seg).length
  · have e : rd (lens a) seg = ((rd_L3 a seg).length : Int) := by
      have := rd_lens (a := a) (i := seg.toNat) (by omega)
      rw [Int.toNat_of_nonneg h.1] at this
      exact this
    have hw : withinB (lens a) seg at_ 1 = true := decide_eq_true (by rw [e]; omega)
    rw [if_pos hw, if_pos h, if_pos h.1, if_pos (by omega), if_pos (by omega), if_pos (by omega)]
  · have hw : ¬ withinB (lens a) seg at_ 1 = true := fun h' => by
      have h' := of_decide_eq_true h'
      have e : rd (lens a) seg = ((rd_L3 a seg).length : Int) := by
        have := rd_lens (a := a) (i := seg.toNat) (by omega)
        rw [Int.toNat_of_nonneg h'.1] at this
        exact this
      rw [e] at h'
      exact h (by omega)
    rw [if_neg hw, if_neg h]
theorem asks_true (a : List (List Int)) (hu : ∀ s ∈ a, U64s s) (hl : a.length ≤ 10000000) (hT : a.flatten.length ≤ 1000) (seg at_ : Int) (k : Nat) (hk : 30000000 < k) : scullerlaw07_asks.f k a seg at_ = some true := by
  have hlen := lens_lenA a
  have hs : I64s (lens a) := fun x hx => by
    have h1 := lens_pos a x hx
    have h2 := (mem_le_sum (lens a) (lens_pos a)).2 x hx
    have := flat_len a
    omega
  have hw : (wordF a seg at_).2 = 0 ∨ (wordF a seg at_).2 = 20 := by
    unfold wordF; split
    · exact .inl rfl
    · exact .inr rfl
  have hwb := wbytes_bytes a.flatten
  unfold scullerlaw07_asks.f
  rw [word_eq, Option.bind_some, rword_eq a hs hl seg at_ k (by omega), Option.bind_some, aright_eq a (by omega) k (by omega) (by omega), Option.bind_some, rright_eq a (by omega) k (by omega) (by omega), Option.bind_some, if_pos (by simp), sizes_eq a (by omega) k (by omega), Option.bind_some, rsizes_eq a (by omega) k (by omega), Option.bind_some,
    sameInts_eq _ _ (by omega) k (by omega), Option.bind_some, if_pos (by simp), awords_eq (by omega), Option.bind_some, rwords07_eq a (by omega) hl k (by omega), Option.bind_some, if_pos rfl, if_pos rfl, w64 (by omega) (by omega), if_pos rfl, abytes_eq (by omega), Option.bind_some, rbytes_eq a hu hl (by omega) k (by omega), Option.bind_some]
  simp
theorem asks_law (a b : List (List Int)) (hua : ∀ s ∈ a, U64s s) (hla : a.length ≤ 10000000) (hTa : a.flatten.length ≤ 10000000) (hlb : b.length ≤ 10000000) (hTb : b.flatten.length ≤ 10000000) (c : List Int) (hc : Bytes c) (seg at_ n : Int) (hn : 0 ≤ n ∧ n ≤ 255) :
    ∃ k, scullerlaw07_ArenaAsks.f k a b c seg at_ n = some true := by
  obtain ⟨k, hk0, hk2⟩ : ∃ k : Nat, 40000000 < k ∧ a.length * (1000 + 3) + 3 < k := ⟨a.length * (1000 + 3) + 40000001, by omega, by omega⟩
  have hk2 := Aside0.mk hk2
  refine ⟨k + 1, ?_⟩
  unfold scullerlaw07_ArenaAsks.f
  rw [lwords_eq a (by omega) hla (k + 1) (by omega), Option.bind_some, lwords_eq b (by omega) hlb (k + 1) (by omega), Option.bind_some, w64 (by omega) (by omega)]
  by_cases h : (a.flatten.length : Int) + b.flatten.length > 500
  · rw [if_pos h, scullerlaw07_ArenaAsks.j0, if_pos rfl, known07_eq k (by omega)]; rfl
  · have hsl : ∀ s ∈ a, s.length ≤ 1000 := fun s hs => by
      have h2 := (mem_le_sum (lens a) (lens_pos a)).2 (s.length : Int) (List.mem_map_of_mem hs)
      have := flat_len a
      omega
    obtain ⟨x, ex, hA, hal⟩ := arena07 c n hn hc k (by omega)
    have hok := (hA.ain (by omega) (by omega)).ok (by omega) (by omega)
    obtain ⟨l1, l16, l40⟩ := hok.len
    have hxT : x.flatten.length ≤ 1000 := by
      have h1 := flat_len x
      have h2 := sum_le13 x hA.l
      omega
    rw [if_neg h, known07_eq (k + 1) (by omega), Option.bind_some, scullerlaw07_ArenaAsks.j0, if_neg (by simp), ex, Option.bind_some, asks_true a hua hla (by omega) _ _ k (by omega), Option.bind_some, if_pos rfl, asks_true x hok.u (by omega) hxT _ _ k (by omega), Option.bind_some, if_pos rfl, asks_true x hok.u (by omega) hxT _ _ k (by omega), Option.bind_some, if_pos rfl,
      same_eq a b (by omega) 1000 (by omega) hsl k (by omega), Option.bind_some, rsame_eq a b (by omega) 1000 (by omega) hsl k hk2.out, Option.bind_some, if_pos (by simp), Option.bind_some, same_eq x x (by omega) 13 (by omega) hA.l k (by omega), Option.bind_some]
    simp
end Go.Proofs.Ytcjicfpdmegckaa.A
