/- What arena.Fits computes: whether so many segments may have so many words. Conditions: none. -/
/- What mani.Right, mani.Words and mani.Chunks compute. Conditions: those in each theorem. -/
/- Words as bytes; how long an arena's segments are. Conditions: none. -/
/- What the document's Fits computes. Conditions: those in each theorem. -/
import Derived.Test.YtliohoalackhiaaPNx3
import Derived.Test.YtliohoalackhiaaPNx2
import Derived.Test.YtliohoalackhiaaPNum
import Derived.Test.YtliohoalackhiaaPNx7
import Derived.Test.YtliohoalackhiaaPNx6
import Derived.Test.YtliohoalackhiaaPNNBase
import Derived.Test.YtliohoalackhiaaPNx11
import Derived.Test.YtliohoalackhiaaPCrcN
namespace Go.Proofs.Ytliohoalackhiaa.N
open Go.RowKit Go.Proofs.YtliohoalackhiaaW.PrintWords Go.Proofs.YtliohoalackhiaaW.PrintLast Go.Proofs.YtliohoalackhiaaW.PrintMore Go.Proofs.Ytliohoalackhiaa.Num
/-- sizes that are none below 0, and not too great together with n -/
def okFrom : Int → List Int → Bool
  | _, [] => true
  | n, x :: t => decide (0 ≤ x ∧ n + x ≤ 4096) && okFrom (n + x) t
def sumI : List Int → Int
  | [] => 0
  | x :: t => x + sumI t
theorem sumI_append (a b : List Int) : sumI (a ++ b) = sumI a + sumI b := by
  induction a with
  | nil => simp [sumI]
  | cons x t ih => simp only [List.cons_append, sumI, ih]; omega
theorem okFrom_iff (s : List Int) : ∀ n, n ≤ 4096 → (okFrom n s = true ↔ (∀ x ∈ s, 0 ≤ x) ∧ n + sumI s ≤ 4096) := by
  induction s with
  | nil => intro n hn; simp [okFrom, sumI]; exact hn
  | cons x t ih =>
    intro n hn
    simp only [okFrom, Bool.and_eq_true, decide_eq_true_eq, sumI, List.mem_cons, forall_eq_or_imp]
    constructor
    · rintro ⟨⟨h0, h1⟩, h2⟩
      obtain ⟨h3, h4⟩ := (ih _ h1).1 h2
      exact ⟨⟨h0, h3⟩, by omega⟩
    · rintro ⟨⟨h0, h3⟩, h4⟩
      have hs : 0 ≤ sumI t := by
        clear ih h4
        induction t with
        | nil => exact Int.le_refl 0
        | cons y t ih2 => have := h3 y List.mem_cons_self; have := ih2 (fun z hz => h3 z (List.mem_cons_of_mem _ hz)); simp only [sumI]; omega
      exact ⟨⟨h0, by omega⟩, (ih _ (by omega)).2 ⟨h3, by omega⟩⟩
def fitsB (s : List Int) : Bool := decide (1 ≤ s.length ∧ s.length ≤ 16 ∧ 1 ≤ s.getD 0 0) && okFrom 0 s
theorem fitsB_iff (s : List Int) : fitsB s = true ↔ 1 ≤ s.length ∧ s.length ≤ 16 ∧ 1 ≤ s.getD 0 0 ∧ (∀ x ∈ s, 0 ≤ x) ∧ sumI s ≤ 4096 := by
  unfold fitsB
  rw [Bool.and_eq_true, decide_eq_true_eq, okFrom_iff s 0 (by omega), Int.zero_add]
  constructor
  · rintro ⟨⟨a, b, c⟩, d, e⟩; exact ⟨a, b, c, d, e⟩
  · rintro ⟨a, b, c, d, e⟩; exact ⟨⟨a, b, c⟩, d, e⟩
theorem mem_le_sum (s : List Int) (h : ∀ x ∈ s, 0 ≤ x) : 0 ≤ sumI s ∧ ∀ x ∈ s, x ≤ sumI s := by
  induction s with
  | nil => exact ⟨Int.le_refl 0, fun x hx => by cases hx⟩
  | cons y t ih =>
    have h0 := h y List.mem_cons_self
    obtain ⟨h1, h2⟩ := ih (fun z hz => h z (List.mem_cons_of_mem _ hz))
    refine ⟨by simp only [sumI]; omega, fun x hx => ?_⟩
    simp only [sumI]
    rcases List.mem_cons.1 hx with rfl | hx
    · omega
    · have := h2 x hx; omega
theorem fits_mem {s : List Int} (h : fitsB s = true) : ∀ x ∈ s, 0 ≤ x ∧ x ≤ 4096 := by
  obtain ⟨_, _, _, h0, h1⟩ := (fitsB_iff s).1 h
  intro x hx
  have := (mem_le_sum s h0).2 x hx
  exact ⟨h0 x hx, by omega⟩
theorem drop_rd {s : List Int} {i : Nat} (h : i < s.length) : s.drop i = rd s (i : Int) :: s.drop (i + 1) := by
  unfold rd
  rw [Int.toNat_natCast, List.drop_eq_getElem_cons h, List.getD_eq_getElem?_getD, List.getElem?_eq_getElem h]; rfl
theorem add_fit (n x : Int) (h0 : 0 ≤ n) (h1 : n ≤ 4096) : word_Add.f n x 4096 = some (if 0 ≤ x ∧ n + x ≤ 4096 then (n + x, true) else (0, false)) := by
  unfold word_Add.f
  rw [w64 (x := 4096 - n) (by omega) (by omega)]
  by_cases hx : 0 ≤ x
  · rw [if_neg (by unfold mn; split <;> omega), if_neg (by omega)]
    by_cases h : x > 4096 - n
    · rw [if_pos h, if_neg (by omega)]
    · rw [if_neg h, if_pos ⟨hx, by omega⟩, w64 (by omega) (by omega)]
  · rw [if_pos (by unfold mn; split <;> omega), if_neg (by omega)]
theorem fits_l0 (s : List Int) (hs : s.length ≤ 16) : ∀ (d k i : Nat) (n : Int), i + d = s.length → d < k → 0 ≤ n → n ≤ 4096 → arena_Fits.l0 k n s (s.length : Int) (i : Int) = some (okFrom n (s.drop i)) := by
  intro d
  induction d with
  | zero =>
    intro k i n hi hk _ _
    obtain ⟨k, rfl⟩ : ∃ j, k = j + 1 := ⟨k - 1, by omega⟩
    rw [arena_Fits.l0, if_neg (by omega), List.drop_of_length_le (by omega)]; rfl
  | succ d ih =>
    intro k i n hi hk h0 h1
    obtain ⟨k, rfl⟩ : ∃ j, k = j + 1 := ⟨k - 1, by omega⟩
    rw [arena_Fits.l0, if_pos (by omega), if_pos (by omega), if_pos (by omega), add_fit n _ h0 h1, Option.bind_some, drop_rd (by omega)]
    by_cases h : 0 ≤ rd s (i : Int) ∧ n + rd s (i : Int) ≤ 4096
    · rw [if_pos h]
      simp only [if_true]
      rw [w64 (x := (i : Int) + 1) (by omega) (by omega)]
      have := ih k (i + 1) (n + rd s (i : Int)) (by omega) (by omega) (by omega) h.2
      rw [show ((i + 1 : Nat) : Int) = (i : Int) + 1 by omega] at this
      rw [this]
      simp only [okFrom, decide_eq_true h, Bool.true_and]
    · rw [if_neg h]
      simp only [okFrom, decide_eq_false h, Bool.false_and, Bool.false_eq_true, if_false]
theorem fits_eq (s : List Int) (k : Nat) (hk : 20 < k) : arena_Fits.f k s = some (fitsB s) := by
  obtain ⟨k, rfl⟩ : ∃ j, k = j + 1 := ⟨k - 1, by omega⟩
  unfold arena_Fits.f fitsB
  by_cases h1 : (s.length : Int) < 1
  · rw [if_pos h1, arena_Fits.j0, if_pos rfl, decide_eq_false (by omega)]; rfl
  · rw [if_neg h1]
    by_cases h2 : (s.length : Int) > 16
    · rw [if_pos h2, arena_Fits.j0, if_pos rfl, decide_eq_false (by omega)]; rfl
    · rw [if_neg h2, if_pos (by omega), arena_Fits.j0]
      have e : rd s 0 = s.getD 0 0 := rfl
      rw [e]
      by_cases h3 : s.getD 0 0 < 1
      · rw [if_pos (decide_eq_true h3), decide_eq_false (by omega)]; rfl
      · rw [if_neg (by simpa using h3), decide_eq_true (by omega), Bool.true_and]
        have := fits_l0 s (by omega) s.length k 0 0 (by omega) (by omega) (by omega) (by omega)
        simpa using this
/-- how many words there are -/
def wordsI (s : List Int) : Int := if fitsB s = true then sumI s else 0
theorem wordsI_bd (s : List Int) : 0 ≤ wordsI s ∧ wordsI s ≤ 4096 := by
  unfold wordsI
  split
  · rename_i h; obtain ⟨_, _, _, h0, h1⟩ := (fitsB_iff s).1 h; exact ⟨(mem_le_sum s h0).1, h1⟩
  · omega
/-- how many chunks there are -/
def chunksN (s : List Int) : Nat := ((wordsI s + 7) / 8).toNat
theorem chunksN_le (s : List Int) : chunksN s ≤ 512 := by have := wordsI_bd s; unfold chunksN; omega
theorem chunksN_cast (s : List Int) : ((chunksN s : Nat) : Int) = (wordsI s + 7) / 8 := by have := wordsI_bd s; unfold chunksN; omega
end Go.Proofs.Ytliohoalackhiaa.N
namespace Go.Proofs.Ytliohoalackhiaa.N
open Go.RowKit Go.Proofs.YtliohoalackhiaaW.PrintWords Go.Proofs.YtliohoalackhiaaW.PrintLast Go.Proofs.YtliohoalackhiaaW.PrintMore Go.Proofs.Ytliohoalackhiaa.Num
theorem maniRight_eq (x : Int) (s : List Int) (y : Int) (k : Nat) (hk : 20 < k) : mani_Right.f k x s y = some (fitsB s) := by
  unfold mani_Right.f; rw [fits_eq s k hk]; rfl
theorem words_l0 (s : List Int) (hs : s.length ≤ 16) (h0 : ∀ x ∈ s, 0 ≤ x) (hm : sumI s ≤ 4096) : ∀ (d k i : Nat), i + d = s.length → d < k → mani_Words.l0 k (sumI (s.take i)) s (s.length : Int) (i : Int) = some (sumI s) := by
  intro d
  induction d with
  | zero =>
    intro k i hi hk
    obtain ⟨k, rfl⟩ : ∃ j, k = j + 1 := ⟨k - 1, by omega⟩
    rw [mani_Words.l0, if_neg (by omega), List.take_of_length_le (by omega)]
  | succ d ih =>
    intro k i hi hk
    obtain ⟨k, rfl⟩ : ∃ j, k = j + 1 := ⟨k - 1, by omega⟩
    have e : s.take (i + 1) = s.take i ++ [rd s (i : Int)] := by
      unfold rd
      rw [List.take_succ_eq_append_getElem (by omega), Int.toNat_natCast, List.getD_eq_getElem?_getD, List.getElem?_eq_getElem (show i < s.length by omega)]; rfl
    have e2 : sumI (s.take (i + 1)) = sumI (s.take i) + rd s (i : Int) := by rw [e, sumI_append]; simp [sumI]
    have b1 := mem_le_sum (s.take (i + 1)) (fun x hx => h0 x (List.mem_of_mem_take hx))
    have b2 := mem_le_sum (s.drop (i + 1)) (fun x hx => h0 x (List.mem_of_mem_drop hx))
    have b3 : sumI s = sumI (s.take (i + 1)) + sumI (s.drop (i + 1)) := by rw [← sumI_append, List.take_append_drop]
    rw [mani_Words.l0, if_pos (by omega), if_pos (by omega), if_pos (by omega), ← e2, w64 (by omega) (by omega), w64 (x := (i : Int) + 1) (by omega) (by omega)]
    exact ih k (i + 1) (by omega) (by omega)
theorem words_eq (x : Int) (s : List Int) (y : Int) (k : Nat) (hk : 20 < k) : mani_Words.f k x s y = some (wordsI s) := by
  unfold mani_Words.f wordsI
  rw [maniRight_eq x s y k hk, Option.bind_some]
  by_cases h : fitsB s = true
  · obtain ⟨_, h16, _, h0, hm⟩ := (fitsB_iff s).1 h
    rw [if_pos h, if_pos h]
    have := words_l0 s h16 h0 hm s.length k 0 (by omega) (by omega)
    simpa [sumI] using this
  · rw [if_neg h, if_neg h]
theorem ceil8 {n : Int} (h0 : 0 ≤ n) (h1 : n ≤ 4096) : word_Ceil.f n 8 = some ((n + 7) / 8) := by
  unfold word_Ceil.f
  rw [if_neg (by omega), if_neg (by omega), if_neg (by omega), if_neg (by omega), if_neg (by omega), w64 (x := n + 8) (by omega) (by omega), w64 (x := n + 8 - 1) (by omega) (by omega), tdivn (by omega), w64 (by omega) (by omega)]
  congr 1; omega
theorem chunks_eq (x : Int) (s : List Int) (y : Int) (k : Nat) (hk : 20 < k) : mani_Chunks.f k x s y = some (chunksN s : Int) := by
  unfold mani_Chunks.f
  have := wordsI_bd s
  rw [words_eq x s y k hk, Option.bind_some, ceil8 (by omega) (by omega), Option.bind_some, chunksN_cast]
end Go.Proofs.Ytliohoalackhiaa.N
namespace Go.Proofs.Ytliohoalackhiaa.N
set_option linter.unusedVariables false
open Go.RowKit Go.Proofs.YtliohoalackhiaaW.PrintWords Go.Proofs.YtliohoalackhiaaW.PrintLast Go.Proofs.YtliohoalackhiaaW.PrintMore Go.Proofs.Ytliohoalackhiaa.Num Go.Proofs.Ytliohoalackhiaa.CrcN
def lens (a : List (List Int)) : List Int := a.map fun s => (s.length : Int)
theorem lens_append (a b : List (List Int)) : lens (a ++ b) = lens a ++ lens b := List.map_append
/-- words as bytes -/
def wbytes : List Int → List Int
  | [] => []
  | x :: t => putL x 8 ++ wbytes t
theorem wbytes_append (a b : List Int) : wbytes (a ++ b) = wbytes a ++ wbytes b := by
  induction a with
  | nil => rfl
  | cons x t ih => simp only [List.cons_append, wbytes, ih, List.append_assoc]
theorem wbytes_length (s : List Int) : (wbytes s).length = 8 * s.length := by
  induction s with
  | nil => rfl
  | cons x t ih => simp only [wbytes, List.length_append, putL_length, List.length_cons, ih]; omega
theorem wbytes_bytes (s : List Int) : Bytes (wbytes s) := by
  induction s with
  | nil => exact fun x hx => by cases hx
  | cons x t ih => exact (putL_bytes x 8).append ih
theorem flat_len (a : List (List Int)) : (a.flatten.length : Int) = sumI (lens a) := by
  induction a with
  | nil => rfl
  | cons s t ih => simp only [List.flatten_cons, List.length_append, lens, List.map_cons, sumI] at ih ⊢; omega
end Go.Proofs.Ytliohoalackhiaa.N
namespace Go.Proofs.Ytliohoalackhiaa.N
set_option linter.unusedVariables false
open Go.RowKit Go.Proofs.YtliohoalackhiaaW.PrintWords Go.Proofs.YtliohoalackhiaaW.PrintLast Go.Proofs.YtliohoalackhiaaW.PrintMore Go.Proofs.Ytliohoalackhiaa.Num Go.Proofs.Ytliohoalackhiaa.CrcN
theorem rfits_l0 (s : List Int) (hs : s.length ≤ 16) : ∀ (d k i : Nat) (n : Int), i + d = s.length → d < k → 0 ≤ n → n ≤ 4096 → scullerref07_Fits.l0 k s n (i : Int) = some (okFrom n (s.drop i)) := by
  intro d
  induction d with
  | zero =>
    intro k i n hi hk _ _
    obtain ⟨k, rfl⟩ : ∃ j, k = j + 1 := ⟨k - 1, by omega⟩
    rw [scullerref07_Fits.l0, if_neg (by omega), List.drop_of_length_le (by omega)]; rfl
  | succ d ih =>
    intro k i n hi hk h0 h1
    obtain ⟨k, rfl⟩ : ∃ j, k = j + 1 := ⟨k - 1, by omega⟩
    rw [scullerref07_Fits.l0, if_pos (by omega), if_pos (by omega), drop_rd (by omega), w64 (x := 4096 - n) (by omega) (by omega)]
    by_cases h : 0 ≤ rd s (i : Int) ∧ n + rd s (i : Int) ≤ 4096
    · rw [if_neg (by omega), if_neg (by omega), w64 (x := n + _) (by omega) (by omega), w64 (x := (i : Int) + 1) (by omega) (by omega)]
      have := ih k (i + 1) (n + rd s (i : Int)) (by omega) (by omega) (by omega) h.2
      rw [show ((i + 1 : Nat) : Int) = (i : Int) + 1 by omega] at this
      rw [this]
      simp only [okFrom, decide_eq_true h, Bool.true_and]
    · simp only [okFrom, decide_eq_false h, Bool.false_and]
      by_cases hx : rd s (i : Int) < 0
      · rw [if_pos hx]
      · rw [if_neg hx, if_pos (by omega)]
theorem rfits_eq (s : List Int) (k : Nat) (hk : 20 < k) : scullerref07_Fits.f k s = some (fitsB s) := by
  obtain ⟨k, rfl⟩ : ∃ j, k = j + 1 := ⟨k - 1, by omega⟩
  unfold scullerref07_Fits.f fitsB
  by_cases h1 : (s.length : Int) < 1
  · rw [if_pos h1, scullerref07_Fits.j0, if_pos rfl, decide_eq_false (by omega)]; rfl
  · rw [if_neg h1]
    by_cases h2 : (s.length : Int) > 16
    · rw [if_pos h2, scullerref07_Fits.j0, if_pos rfl, decide_eq_false (by omega)]; rfl
    · rw [if_neg h2, if_pos (by omega), scullerref07_Fits.j0]
      have e : rd s 0 = s.getD 0 0 := rfl
      rw [e]
      by_cases h3 : s.getD 0 0 < 1
      · rw [if_pos (decide_eq_true h3), decide_eq_false (by omega)]; rfl
      · rw [if_neg (by simpa using h3), decide_eq_true (by omega), Bool.true_and]
        have := rfits_l0 s (by omega) s.length k 0 0 (by omega) (by omega) (by omega) (by omega)
        simpa using this
end Go.Proofs.Ytliohoalackhiaa.N
