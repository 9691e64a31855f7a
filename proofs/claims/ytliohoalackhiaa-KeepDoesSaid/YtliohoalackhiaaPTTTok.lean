/- What arena.Fits computes: whether so many segments may have so many words. Conditions: none. -/
/- What mani.Right, mani.Words and mani.Chunks compute. Conditions: those in each theorem. -/
/- What token.Right, token.Encode and token.Decode compute, in plain lists of bytes; the chapter's example. Conditions: those in each theorem. -/
/- What token.Decode computes: what was encoded is read back; whatever is read is encoded as the same bytes; the chapter's example. Conditions: those in each theorem. -/
/- The chapter's example of tokens holds. Conditions: none. -/
/- A row that is no token, but would read as one, is none to token.Decode. Conditions: those in each theorem. -/
/- A token is the same as itself, by the document's word. Conditions: those in each theorem. -/
import Derived.Test.YtliohoalackhiaaPNum
import Derived.Test.YtliohoalackhiaaPTx12
import Derived.Test.YtliohoalackhiaaPTx1
import Derived.Test.YtliohoalackhiaaPTx14
import Derived.Test.YtliohoalackhiaaPTx13
import Derived.Test.YtliohoalackhiaaPTgDecode
import Derived.Test.YtliohoalackhiaaPTTBase
import Derived.Test.YtliohoalackhiaaPTBitsK
import Derived.Test.YtliohoalackhiaaPTx16
import Derived.Test.YtliohoalackhiaaPTx10
namespace Go.Proofs.Ytliohoalackhiaa.T
open Go.RowKit Go.Proofs.YtliohoalackhiaaW.PrintWords Go.Proofs.YtliohoalackhiaaW.PrintLast Go.Proofs.YtliohoalackhiaaW.PrintMore Go.Proofs.Ytliohoalackhiaa.Num
def okFrom : Int → List Int → Bool
  | _, [] => true
  | n, x :: t => decide (0 ≤ x ∧ n + x ≤ 4096) && okFrom (n + x) t
def sumI : List Int → Int
  | [] => 0
  | x :: t => x + sumI t
theorem sumI_append (a b : List Int) : sumI (a ++ b) = sumI a + sumI b := by
  induction a with
  | nil => simp [sumI]
  | cons x t ih => simp only [List.cons_append, sumI, ih]; omega
theorem okFrom_iff (s : List Int) : ∀ n, n ≤ 4096 → (okFrom n s = true ↔ (∀ x ∈ s, 0 ≤ x) ∧ n + sumI s ≤ 4096) := by
  induction s with
  | nil => intro n hn; simp [okFrom, sumI]; exact hn
  | cons x t ih =>
    intro n hn
    simp only [okFrom, Bool.and_eq_true, decide_eq_true_eq, sumI, List.mem_cons, forall_eq_or_imp]
    constructor
    · rintro ⟨⟨h0, h1⟩, h2⟩
      obtain ⟨h3, h4⟩ := (ih _ h1).1 h2
      exact ⟨⟨h0, h3⟩, by omega⟩
    · rintro ⟨⟨h0, h3⟩, h4⟩
      have hs : 0 ≤ sumI t := by
        clear ih h4
        induction t with
        | nil => exact Int.le_refl 0
        | cons y t ih2 => have := h3 y List.mem_cons_self; have := ih2 (fun z hz => h3 z (List.mem_cons_of_mem _ hz)); simp only [sumI]; omega
      exact ⟨⟨h0, by omega⟩, (ih _ (by omega)).2 ⟨h3, by omega⟩⟩
def fitsB (s : List Int) : Bool := decide (1 ≤ s.length ∧ s.length ≤ 16 ∧ 1 ≤ s.getD 0 0) && okFrom 0 s
theorem fitsB_iff (s : List Int) : fitsB s = true ↔ 1 ≤ s.length ∧ s.length ≤ 16 ∧ 1 ≤ s.getD 0 0 ∧ (∀ x ∈ s, 0 ≤ x) ∧ sumI s ≤ 4096 := by
  unfold fitsB
  rw [Bool.and_eq_true, decide_eq_true_eq, okFrom_iff s 0 (by omega), Int.zero_add]
  constructor
  · rintro ⟨⟨a, b, c⟩, d, e⟩; exact ⟨a, b, c, d, e⟩
  · rintro ⟨a, b, c, d, e⟩; exact ⟨⟨a, b, c⟩, d, e⟩
theorem mem_le_sum (s : List Int) (h : ∀ x ∈ s, 0 ≤ x) : 0 ≤ sumI s ∧ ∀ x ∈ s, x ≤ sumI s := by
  induction s with
  | nil => exact ⟨Int.le_refl 0, fun x hx => by cases hx⟩
  | cons y t ih =>
    have h0 := h y List.mem_cons_self
    obtain ⟨h1, h2⟩ := ih (fun z hz => h z (List.mem_cons_of_mem _ hz))
    refine ⟨by simp only [sumI]; omega, fun x hx => ?_⟩
    simp only [sumI]
    rcases List.mem_cons.1 hx with rfl | hx
    · omega
    · have := h2 x hx; omega
theorem fits_mem {s : List Int} (h : fitsB s = true) : ∀ x ∈ s, 0 ≤ x ∧ x ≤ 4096 := by
  obtain ⟨_, _, _, h0, h1⟩ := (fitsB_iff s).1 h
  intro x hx
  have := (mem_le_sum s h0).2 x hx
  exact ⟨h0 x hx, by omega⟩
theorem drop_rd {s : List Int} {i : Nat} (h : i < s.length) : s.drop i = rd s (i : Int) :: s.drop (i + 1) := by
  unfold rd
  rw [Int.toNat_natCast, List.drop_eq_getElem_cons h, List.getD_eq_getElem?_getD, List.getElem?_eq_getElem h]; rfl
theorem add_fit (n x : Int) (h0 : 0 ≤ n) (h1 : n ≤ 4096) : word_Add.f n x 4096 = some (if 0 ≤ x ∧ n + x ≤ 4096 then (n + x, true) else (0, false)) := by
  unfold word_Add.f
  rw [w64 (x := 4096 - n) (by omega) (by omega)]
  by_cases hx : 0 ≤ x
  · rw [if_neg (by unfold mn; split <;> omega), if_neg (by omega)]
    by_cases h : x > 4096 - n
    · rw [if_pos h, if_neg (by omega)]
    · rw [if_neg h, if_pos ⟨hx, by omega⟩, w64 (by omega) (by omega)]
  · rw [if_pos (by unfold mn; split <;> omega), if_neg (by omega)]
theorem fits_l0 (s : List Int) (hs : s.length ≤ 16) : ∀ (d k i : Nat) (n : Int), i + d = s.length → d < k → 0 ≤ n → n ≤ 4096 → arena_Fits.l0 k n s (s.length : Int) (i : Int) = some (okFrom n (s.drop i)) := by
  intro d
  induction d with
  | zero =>
    intro k i n hi hk _ _
    obtain ⟨k, rfl⟩ : ∃ j, k = j + 1 := ⟨k - 1, by omega⟩
    rw [arena_Fits.l0, if_neg (by omega), List.drop_of_length_le (by omega)]; rfl
  | succ d ih =>
    intro k i n hi hk h0 h1
    obtain ⟨k, rfl⟩ : ∃ j, k = j + 1 := ⟨k - 1, by omega⟩
    rw [arena_Fits.l0, if_pos (by omega), if_pos (by omega), if_pos (by omega), add_fit n _ h0 h1, Option.bind_some, drop_rd (by omega)]
    by_cases h : 0 ≤ rd s (i : Int) ∧ n + rd s (i : Int) ≤ 4096
    · rw [if_pos h]
      simp only [if_true]
      rw [w64 (x := (i : Int) + 1) (by omega) (by omega)]
      have := ih k (i + 1) (n + rd s (i : Int)) (by omega) (by omega) (by omega) h.2
      rw [show ((i + 1 : Nat) : Int) = (i : Int) + 1 by omega] at this
      rw [this]
      simp only [okFrom, decide_eq_true h, Bool.true_and]
    · rw [if_neg h]
      simp only [okFrom, decide_eq_false h, Bool.false_and, Bool.false_eq_true, if_false]
theorem fits_eq (s : List Int) (k : Nat) (hk : 20 < k) : arena_Fits.f k s = some (fitsB s) := by
  obtain ⟨k, rfl⟩ : ∃ j, k = j + 1 := ⟨k - 1, by omega⟩
  unfold arena_Fits.f fitsB
  by_cases h1 : (s.length : Int) < 1
  · rw [if_pos h1, arena_Fits.j0, if_pos rfl, decide_eq_false (by omega)]; rfl
  · rw [if_neg h1]
    by_cases h2 : (s.length : Int) > 16
    · rw [if_pos h2, arena_Fits.j0, if_pos rfl, decide_eq_false (by omega)]; rfl
    · rw [if_neg h2, if_pos (by omega), arena_Fits.j0]
      have e : rd s 0 = s.getD 0 0 := rfl
      rw [e]
      by_cases h3 : s.getD 0 0 < 1
      · rw [if_pos (decide_eq_true h3), decide_eq_false (by omega)]; rfl
      · rw [if_neg (by simpa using h3), decide_eq_true (by omega), Bool.true_and]
        have := fits_l0 s (by omega) s.length k 0 0 (by omega) (by omega) (by omega) (by omega)
        simpa using this
def wordsI (s : List Int) : Int := if fitsB s = true then sumI s else 0
theorem wordsI_bd (s : List Int) : 0 ≤ wordsI s ∧ wordsI s ≤ 4096 := by
  unfold wordsI
  split
  · rename_i h; obtain ⟨_, _, _, h0, h1⟩ := (fitsB_iff s).1 h; exact ⟨(mem_le_sum s h0).1, h1⟩
  · omega
def chunksN (s : List Int) : Nat := ((wordsI s + 7) / 8).toNat
theorem chunksN_le (s : List Int) : chunksN s ≤ 512 := by have := wordsI_bd s; unfold chunksN; omega
theorem chunksN_cast (s : List Int) : ((chunksN s : Nat) : Int) = (wordsI s + 7) / 8 := by have := wordsI_bd s; unfold chunksN; omega
end Go.Proofs.Ytliohoalackhiaa.T
namespace Go.Proofs.Ytliohoalackhiaa.T
open Go.RowKit Go.Proofs.YtliohoalackhiaaW.PrintWords Go.Proofs.YtliohoalackhiaaW.PrintLast Go.Proofs.YtliohoalackhiaaW.PrintMore Go.Proofs.Ytliohoalackhiaa.Num
theorem maniRight_eq (x : Int) (s : List Int) (y : Int) (k : Nat) (hk : 20 < k) : mani_Right.f k x s y = some (fitsB s) := by
  unfold mani_Right.f; rw [fits_eq s k hk]; rfl
theorem words_l0 (s : List Int) (hs : s.length ≤ 16) (h0 : ∀ x ∈ s, 0 ≤ x) (hm : sumI s ≤ 4096) : ∀ (d k i : Nat), i + d = s.length → d < k → mani_Words.l0 k (sumI (s.take i)) s (s.length : Int) (i : Int) = some (sumI s) := by
  intro d
  induction d with
  | zero =>
    intro k i hi hk
    obtain ⟨k, rfl⟩ : ∃ j, k = j + 1 := ⟨k - 1, by omega⟩
    rw [mani_Words.l0, if_neg (by omega), List.take_of_length_le (by omega)]
  | succ d ih =>
    intro k i hi hk
    obtain ⟨k, rfl⟩ : ∃ j, k = j + 1 := ⟨k - 1, by omega⟩
    have e : s.take (i + 1) = s.take i ++ [rd s (i : Int)] := by
      unfold rd
      rw [List.take_succ_eq_append_getElem (by omega), Int.toNat_natCast, List.getD_eq_getElem?_getD, List.getElem?_eq_getElem (show i < s.length by omega)]; rfl
    have e2 : sumI (s.take (i + 1)) = sumI (s.take i) + rd s (i : Int) := by rw [e, sumI_append]; simp [sumI]
    have b1 := mem_le_sum (s.take (i + 1)) (fun x hx => h0 x (List.mem_of_mem_take hx))
    have b2 := mem_le_sum (s.drop (i + 1)) (fun x hx => h0 x (List.mem_of_mem_drop hx))
    have b3 : sumI s = sumI (s.take (i + 1)) + sumI (s.drop (i + 1)) := by rw [← sumI_append, List.take_append_drop]
    rw [mani_Words.l0, if_pos (by omega), if_pos (by omega), if_pos (by omega), ← e2, w64 (by omega) (by omega), w64 (x := (i : Int) + 1) (by omega) (by omega)]
    exact ih k (i + 1) (by omega) (by omega)
theorem words_eq (x : Int) (s : List Int) (y : Int) (k : Nat) (hk : 20 < k) : mani_Words.f k x s y = some (wordsI s) := by
  unfold mani_Words.f wordsI
  rw [maniRight_eq x s y k hk, Option.bind_some]
  by_cases h : fitsB s = true
  · obtain ⟨_, h16, _, h0, hm⟩ := (fitsB_iff s).1 h
    rw [if_pos h, if_pos h]
    have := words_l0 s h16 h0 hm s.length k 0 (by omega) (by omega)
    simpa [sumI] using this
  · rw [if_neg h, if_neg h]
theorem ceil8 {n : Int} (h0 : 0 ≤ n) (h1 : n ≤ 4096) : word_Ceil.f n 8 = some ((n + 7) / 8) := by
  unfold word_Ceil.f
  rw [if_neg (by omega), if_neg (by omega), if_neg (by omega), if_neg (by omega), if_neg (by omega), w64 (x := n + 8) (by omega) (by omega), w64 (x := n + 8 - 1) (by omega) (by omega), tdivn (by omega), w64 (by omega) (by omega)]
  congr 1; omega
theorem chunks_eq (x : Int) (s : List Int) (y : Int) (k : Nat) (hk : 20 < k) : mani_Chunks.f k x s y = some (chunksN s : Int) := by
  unfold mani_Chunks.f
  have := wordsI_bd s
  rw [words_eq x s y k hk, Option.bind_some, ceil8 (by omega) (by omega), Option.bind_some, chunksN_cast]
end Go.Proofs.Ytliohoalackhiaa.T
namespace Go.Proofs.Ytliohoalackhiaa.T
open Go.RowKit Go.Proofs.YtliohoalackhiaaW.PrintWords Go.Proofs.YtliohoalackhiaaW.PrintLast Go.Proofs.YtliohoalackhiaaW.PrintMore Go.Proofs.Ytliohoalackhiaa.Num Go.Proofs.Ytliohoalackhiaa.CrcN
def TokOK (ss kn : List Int) : Prop := fitsB ss = true ∧ kn.length = (chunksN ss + 7) / 8 ∧ ∀ i, chunksN ss ≤ i → B kn i = false
theorem tokRight_eq (x : Int) (ss : List Int) (y : Int) (kn : List Int) (hb : Bytes kn) (hl : kn.length < 140737488355328) (k : Nat) (hk : 20 < k) : ∃ r, token_Right.f k x ss y kn = some r ∧ (r = true ↔ TokOK ss kn) := by
  unfold token_Right.f
  rw [maniRight_eq x ss y k hk, Option.bind_some]
  by_cases h : fitsB ss = true
  · rw [if_pos h, chunks_eq x ss y k hk, Option.bind_some]
    obtain ⟨r, e, hr⟩ := right_nat hb hl (n := chunksN ss) (by have := chunksN_le ss; omega)
    exact ⟨r, by rw [e]; rfl, hr.trans ⟨fun q => ⟨h, q⟩, fun q => q.2⟩⟩
  · rw [if_neg h]
    exact ⟨false, rfl, ⟨fun q => (by cases q), fun q => absurd q.1 h⟩⟩
def encL (x : Int) (ss : List Int) (y : Int) (kn : List Int) : List Int := (((putL x 8 ++ putL y 4) ++ putL ss.length 1) ++ twos ss) ++ kn
theorem encL_length (x : Int) (ss : List Int) (y : Int) (kn : List Int) : (encL x ss y kn).length = 13 + 2 * ss.length + kn.length := by
  unfold encL; simp only [List.length_append, putL_length, twos_length]
theorem encL_bytes (x : Int) (ss : List Int) (y : Int) {kn : List Int} (h : Bytes kn) : Bytes (encL x ss y kn) :=
  ((((putL_bytes _ _).append (putL_bytes _ _)).append (putL_bytes _ _)).append (twos_bytes _)).append h
theorem enc_l0 (ss : List Int) (h16 : ss.length ≤ 16) (hm : ∀ x ∈ ss, 0 ≤ x ∧ x ≤ 4096) (kn : List Int) (hb : Bytes kn) (hkl : kn.length ≤ 100) (b : List Int) (hbb : Bytes b) (hbl : b.length = 13) (x y : Int) : ∀ (d k i : Nat), i + d = ss.length → d + 10 < k →
    token_Encode.l0 k (b ++ twos (ss.take i)) ss (ss.length : Int) (i : Int) x ss y kn = some (sealed ((b ++ twos ss) ++ kn), 0) := by
  intro d
  induction d with
  | zero =>
    intro k i hi hk
    obtain ⟨k, rfl⟩ : ∃ j, k = j + 1 := ⟨k - 1, by omega⟩
    have hl : ((b ++ twos ss) ++ kn).length ≤ 200 := by simp only [List.length_append, twos_length]; omega
    rw [token_Encode.l0, if_neg (by omega), List.take_of_length_le (by omega), if_pos (by simp only [List.length_append, twos_length]; omega), seal_sealed k (by omega) _ ((hbb.append (twos_bytes _)).append hb) (by omega)]; rfl
  | succ d ih =>
    intro k i hi hk
    obtain ⟨k, rfl⟩ : ∃ j, k = j + 1 := ⟨k - 1, by omega⟩
    have e : ss.take (i + 1) = ss.take i ++ [rd ss (i : Int)] := by
      unfold rd
      rw [List.take_succ_eq_append_getElem (by omega), Int.toNat_natCast, List.getD_eq_getElem?_getD, List.getElem?_eq_getElem (show i < ss.length by omega)]; rfl
    have hx : 0 ≤ rd ss (i : Int) ∧ rd ss (i : Int) ≤ 4096 := by
      unfold rd
      rw [Int.toNat_natCast, List.getD_eq_getElem?_getD, List.getElem?_eq_getElem (show i < ss.length by omega)]
      exact hm _ (List.getElem_mem (show i < ss.length by omega))
    have a2 : asked 2 = 2 := by decide
    have e2 : b ++ twos (ss.take (i + 1)) = (b ++ twos (ss.take i)) ++ putL (rd ss (i : Int)) 2 := by
      rw [e, twos_append, List.append_assoc]; simp [twos]
    have hl : (twos (ss.take i)).length ≤ 32 := by rw [twos_length, List.length_take]; omega
    rw [token_Encode.l0, if_pos (by omega), if_pos (by omega), if_pos (by omega), put_eq k (by omega), Option.bind_some, a2, u64id (by omega) (by omega), if_pos (by rw [List.length_append, putL_length]; omega), ← e2, w64 (x := (i : Int) + 1) (by omega) (by omega)]
    exact ih k (i + 1) (by omega) (by omega)
theorem enc_ok {ss kn : List Int} (h : TokOK ss kn) (hb : Bytes kn) {x y : Int} (hy : 0 ≤ y ∧ y ≤ 4294967295) (k : Nat) (hk : 40 < k) : token_Encode.f k x ss y kn = some (sealed (encL x ss y kn), 0) := by
  have hc := chunksN_le ss
  have hkl : kn.length ≤ 100 := by have := h.2.1; omega
  obtain ⟨r, e, hr⟩ := tokRight_eq x ss y kn hb (by omega) k (by omega)
  obtain rfl : r = true := hr.2 h
  obtain ⟨_, h16, _, _, _⟩ := (fitsB_iff ss).1 h.1
  have a8 : asked 8 = 8 := by decide
  have a4 : asked 4 = 4 := by decide
  have a1 : asked 1 = 1 := by decide
  unfold token_Encode.f
  rw [e, Option.bind_some, if_pos rfl, put_eq k (by omega), Option.bind_some, put_eq k (by omega), Option.bind_some, a8, a4, u64id (x := y) (by omega) (by omega), if_pos (by rw [putL_length, putL_length]; omega), Option.bind_some, put_eq k (by omega), Option.bind_some, a1, u64id (x := (ss.length : Int)) (by omega) (by omega),
    if_pos (by rw [List.length_append, putL_length, putL_length, putL_length]; omega)]
  have := enc_l0 ss h16 (fits_mem h.1) kn hb hkl ((putL x 8 ++ putL y 4) ++ putL ss.length 1) (((putL_bytes _ _).append (putL_bytes _ _)).append (putL_bytes _ _)) (by simp only [List.length_append, putL_length]) x y ss.length k 0 (by omega) (by omega)
  simpa [twos, encL] using this
theorem enc_no {x : Int} {ss : List Int} {y : Int} {kn : List Int} (h : ¬ TokOK ss kn) (hb : Bytes kn) (hl : kn.length < 140737488355328) (k : Nat) (hk : 20 < k) : token_Encode.f k x ss y kn = some ([], 1) := by
  obtain ⟨r, e, hr⟩ := tokRight_eq x ss y kn hb hl k hk
  have : r = false := by cases r with | false => rfl | true => exact absurd (hr.1 rfl) h
  subst this
  unfold token_Encode.f
  rw [e]; rfl
end Go.Proofs.Ytliohoalackhiaa.T
namespace Go.Proofs.Ytliohoalackhiaa.T
open Go.RowKit Go.Proofs.YtliohoalackhiaaW.PrintWords Go.Proofs.YtliohoalackhiaaW.PrintLast Go.Proofs.YtliohoalackhiaaW.PrintMore Go.Proofs.Ytliohoalackhiaa.Num Go.Proofs.Ytliohoalackhiaa.CrcN
theorem getN_eq {l : List Int} (h : Bytes l) : getN l = getL (l.take 8) := Option.some.inj (get_eq l h)
theorem decG_app (a b : List Int) (m : Nat) (ha : a.length = m) : decG (a ++ b) (m : Int) = (getN a, b, false) := by
  unfold decG
  rw [if_neg (by rw [List.length_append]; omega), Int.toNat_natCast, ← ha, List.take_left, List.drop_left]
theorem getN_putL (n : Int) (m : Nat) (hm : m ≤ 8) : getN (putL n m) = n % 256 ^ m := by
  rw [getN_eq (putL_bytes n m), List.take_of_length_le (by rw [putL_length]; exact hm), getL_putL]
theorem decL_twos (ss : List Int) (hs : ∀ x ∈ ss, 0 ≤ x ∧ x ≤ 4096) (kn : List Int) : ∀ (xs : List Int) (b : Bool), decL ss.length (twos ss ++ kn) xs b = (xs ++ ss, kn, b) := by
  induction ss with
  | nil => intro xs b; simp [decL, twos]
  | cons x t ih =>
    intro xs b
    obtain ⟨h0, h1⟩ := hs x List.mem_cons_self
    have e := decG_app (putL x 2) (twos t ++ kn) 2 (putL_length x 2)
    rw [getN_putL x 2 (by omega)] at e
    have e2 : twos (x :: t) ++ kn = putL x 2 ++ (twos t ++ kn) := by simp only [twos, List.append_assoc]
    have e3 : x % 256 ^ 2 = x := by have : (256 : Int) ^ 2 = 65536 := by decide
                                    omega
    rw [List.length_cons, decL, e2]
    rw [show ((2 : Nat) : Int) = 2 from rfl] at e
    rw [e, e3]
    simp only [Bool.or_false]
    rw [w64 (by omega) (by omega), ih (fun z hz => hs z (List.mem_cons_of_mem _ hz))]
    simp
theorem decP_enc {x : Int} {ss : List Int} {y : Int} {kn : List Int} (hx : 0 ≤ x ∧ x ≤ 18446744073709551615) (hy : 0 ≤ y ∧ y ≤ 4294967295) (h16 : ss.length ≤ 16) (hs : ∀ x ∈ ss, 0 ≤ x ∧ x ≤ 4096) :
    decP (encL x ss y kn) = (x, y, ss, kn, false) ∧ decM (encL x ss y kn) = (ss.length : Int) := by
  have p8 : (256 : Int) ^ 8 = 18446744073709551616 := by decide
  have p4 : (256 : Int) ^ 4 = 4294967296 := by decide
  have p1 : (256 : Int) ^ 1 = 256 := by decide
  have e1 := decG_app (putL x 8) (putL y 4 ++ (putL ss.length 1 ++ (twos ss ++ kn))) 8 (putL_length _ _)
  have e2 := decG_app (putL y 4) (putL ss.length 1 ++ (twos ss ++ kn)) 4 (putL_length _ _)
  have e3 := decG_app (putL ss.length 1) (twos ss ++ kn) 1 (putL_length _ _)
  rw [getN_putL _ _ (by omega), p8, Int.emod_eq_of_lt hx.1 (by omega)] at e1
  rw [getN_putL _ _ (by omega), p4, Int.emod_eq_of_lt hy.1 (by omega)] at e2
  rw [getN_putL _ _ (by omega), p1, Int.emod_eq_of_lt (by omega) (by omega)] at e3
  rw [show ((8 : Nat) : Int) = 8 from rfl] at e1
  rw [show ((4 : Nat) : Int) = 4 from rfl] at e2
  rw [show ((1 : Nat) : Int) = 1 from rfl] at e3
  have e0 : encL x ss y kn = putL x 8 ++ (putL y 4 ++ (putL ss.length 1 ++ (twos ss ++ kn))) := by unfold encL; simp only [List.append_assoc]
  have hw : IntKind.u32.wrap y = y := by simp [IntKind.wrap, IntKind.bits, IntKind.signed]; omega
  unfold decP decM
  rw [e0]
  simp only [e1, e2, e3, Bool.or_false, Int.toNat_natCast, decL_twos ss hs kn [] false, List.nil_append, hw, and_self]
theorem clone_some {l : List Int} (hl : l.length < 140737488355328) : bytes_Clone.f l = some l := by
  unfold bytes_Clone.f; rw [if_pos hl]
theorem dec_back {x : Int} {ss : List Int} {y : Int} {kn : List Int} (h : TokOK ss kn) (hb : Bytes kn) (hx : 0 ≤ x ∧ x ≤ 18446744073709551615) (hy : 0 ≤ y ∧ y ≤ 4294967295) (k : Nat) (hk : 40 < k) : token_Decode.f k (sealed (encL x ss y kn)) = some (x, ss, y, kn, 0) := by
  have hc := chunksN_le ss
  have hkl : kn.length ≤ 100 := by have := h.2.1; omega
  obtain ⟨h1, h16, _, _, _⟩ := (fitsB_iff ss).1 h.1
  have hE := encL_bytes x ss y hb
  have hl := encL_length x ss y kn
  obtain ⟨hP, hM⟩ := decP_enc (kn := kn) hx hy h16 (fits_mem h.1)
  unfold token_Decode.f
  rw [if_neg (by rw [sealed_length]; omega), right_sealed k (by omega) _ hE (by omega), Option.bind_some, if_pos rfl, sealed_take, hP, hM, if_pos (by omega)]
  simp only []
  rw [clone_some (by omega), Option.bind_some, enc_ok h hb hy k (by omega), Option.bind_some]
  simp only []
  rw [equal_eq (sealed_bytes hE) (sealed_bytes hE), Option.bind_some]
  simp
end Go.Proofs.Ytliohoalackhiaa.T
namespace Go.Proofs.Ytliohoalackhiaa.T
set_option linter.unusedVariables false
open Go.RowKit Go.Proofs.YtliohoalackhiaaW.PrintWords Go.Proofs.YtliohoalackhiaaW.PrintLast Go.Proofs.YtliohoalackhiaaW.PrintMore Go.Proofs.Ytliohoalackhiaa.Num Go.Proofs.Ytliohoalackhiaa.CrcN
theorem rtokSame_self {x : Int} {ss : List Int} {y : Int} {kn : List Int} (hb : Bytes kn) (hl : ss.length < 9223372036854775807) (k : Nat) (hk : ss.length < k) : scullerref14_Same.f k x ss y kn x ss y kn = some true := by
  unfold scullerref14_Same.f scullerref12_Same.f
  rw [if_pos rfl, if_pos rfl, sameInts_eq ss ss hl k hk, Option.bind_some, Option.bind_some, if_pos (by simp), str_eq hb hb]
  simp
end Go.Proofs.Ytliohoalackhiaa.T
