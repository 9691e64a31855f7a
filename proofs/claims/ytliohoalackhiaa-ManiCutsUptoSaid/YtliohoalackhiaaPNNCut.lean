/- What the document's Of, Words and Chunks of manifests compute. Conditions: those in each theorem. -/
/- What the document's Chunk, Page and Join of manifests compute: what mani's do; the law's questions of them, answered. Conditions: those in each theorem. -/
import Derived.Test.YtliohoalackhiaaPNNAre
import Derived.Test.YtliohoalackhiaaPNNBase
import Derived.Test.YtliohoalackhiaaPNNMan
import Derived.Test.YtliohoalackhiaaPNx9
import Derived.Test.YtliohoalackhiaaPNx17
import Derived.Test.YtliohoalackhiaaPNx19
import Derived.Test.YtliohoalackhiaaPNx18
import Derived.Test.YtliohoalackhiaaPNx12
import Derived.Test.YtliohoalackhiaaPNx15
namespace Go.Proofs.Ytliohoalackhiaa.N
set_option linter.unusedVariables false
open Go.RowKit Go.Proofs.YtliohoalackhiaaW.PrintWords Go.Proofs.YtliohoalackhiaaW.PrintLast Go.Proofs.YtliohoalackhiaaW.PrintMore Go.Proofs.Ytliohoalackhiaa.Num Go.Proofs.Ytliohoalackhiaa.CrcN
theorem rof_l0 (a : List (List Int)) (h : Aok a) (s : Int) (b : List Int) (hbb : Bytes b) (hb : b.length = 8) (z : Int) : ∀ (d k i : Nat), i + d = (lens a).length → d + 400000 < k →
    scullerref12_Of.l0 k a (b ++ twos ((lens a).take i)) (i : Int) s (lens a) z = some (s, lens a, ((sumN (nats ((b ++ twos (lens a)) ++ wbytes a.flatten)) : Nat) : Int), 0) := by
  obtain ⟨l1, l16, lT⟩ := h.len
  have hlen : (lens a).length = a.length := List.length_map _
  intro d
  induction d with
  | zero =>
    intro k i hi hk
    obtain ⟨k, rfl⟩ : ∃ j, k = j + 1 := ⟨k - 1, by omega⟩
    have hB : Bytes ((b ++ twos (lens a)) ++ wbytes a.flatten) := (hbb.append (twos_bytes _)).append (wbytes_bytes _)
    have hl : ((b ++ twos (lens a)) ++ wbytes a.flatten).length ≤ 33000 := by simp only [List.length_append, twos_length, wbytes_length]; omega
    rw [scullerref12_Of.l0, if_neg (by omega), List.take_of_length_le (by omega), rbytes_eq a h.u (by omega) (by omega) k (by omega), Option.bind_some,
      if_pos (by simp only [List.length_append, twos_length, wbytes_length]; omega), refsum_eq _ hB (by omega) k (by omega), Option.bind_some]
  | succ d ih =>
    intro k i hi hk
    obtain ⟨k, rfl⟩ : ∃ j, k = j + 1 := ⟨k - 1, by omega⟩
    have e : (lens a).take (i + 1) = (lens a).take i ++ [rd (lens a) (i : Int)] := by
      unfold rd
      rw [List.take_succ_eq_append_getElem (by omega), Int.toNat_natCast, List.getD_eq_getElem?_getD, List.getElem?_eq_getElem (show i < (lens a).length by omega)]; rfl
    have hx : 0 ≤ rd (lens a) (i : Int) ∧ rd (lens a) (i : Int) ≤ 4096 := by
      unfold rd
      rw [Int.toNat_natCast, List.getD_eq_getElem?_getD, List.getElem?_eq_getElem (show i < (lens a).length by omega)]
      exact fits_mem h.f _ (List.getElem_mem (show i < (lens a).length by omega))
    have a2 : asked 2 = 2 := by decide
    have e2 : b ++ twos ((lens a).take (i + 1)) = (b ++ twos ((lens a).take i)) ++ putL (rd (lens a) (i : Int)) 2 := by
      rw [e, twos_append, List.append_assoc]; simp [twos]
    rw [scullerref12_Of.l0, if_pos (by omega), if_pos (by omega), u64id (by omega) (by omega), ref_put_eq k (by omega) _ _ (by omega) (by omega), Option.bind_some, a2,
      if_pos (by simp only [List.length_append, twos_length, putL_length, List.length_take]; omega), ← e2, w64 (x := (i : Int) + 1) (by omega) (by omega)]
    exact ih k (i + 1) (by omega) (by omega)
theorem rof_eq (a : List (List Int)) (h : Aok a) (s : Int) (hs : 0 ≤ s ∧ s ≤ 18446744073709551615) (k : Nat) (hk : 401000 < k) : scullerref12_Of.f k s a = some (s, lens a, ((sumN (nats (manB s a)) : Nat) : Int), 0) := by
  obtain ⟨l1, l16, lT⟩ := h.len
  have a8 : asked 8 = 8 := by decide
  have hf : fitsB (lens a) = true := h.f
  have hlen : (lens a).length = a.length := List.length_map _
  unfold scullerref12_Of.f
  rw [rright_eq a (by omega) k (by omega) (by omega), Option.bind_some, if_pos hf, rsizes_eq a (by omega) k (by omega), Option.bind_some, ref_put_eq k (by omega) _ _ hs.1 hs.2, Option.bind_some, a8]
  have := rof_l0 a h s (putL s 8) (putL_bytes _ _) (putL_length _ _) 0 (lens a).length k 0 (by omega) (by omega)
  simpa [twos, manB] using this
end Go.Proofs.Ytliohoalackhiaa.N
namespace Go.Proofs.Ytliohoalackhiaa.N
set_option linter.unusedVariables false
open Go.RowKit Go.Proofs.YtliohoalackhiaaW.PrintWords Go.Proofs.YtliohoalackhiaaW.PrintLast Go.Proofs.YtliohoalackhiaaW.PrintMore Go.Proofs.Ytliohoalackhiaa.Num Go.Proofs.Ytliohoalackhiaa.CrcN
theorem flat_len_succ {a : List (List Int)} {i : Nat} (h : i < a.length) : (a.take (i + 1)).flatten.length = (a.take i).flatten.length + (rd_L1 a (i : Int)).length := by
  unfold rd_L1
  rw [List.take_succ_eq_append_getElem h, List.flatten_append, List.length_append, Int.toNat_natCast, List.getD_eq_getElem?_getD, List.getElem?_eq_getElem h]; simp
theorem flat_take_le (a : List (List Int)) (i : Nat) : (a.take i).flatten.length ≤ a.flatten.length := by
  have : a.flatten = (a.take i).flatten ++ (a.drop i).flatten := by rw [← List.flatten_append, List.take_append_drop]
  rw [this, List.length_append]; omega
theorem big_l0 (a : List (List Int)) (hT : a.flatten.length ≤ 100000000) (hl : a.length ≤ 10000000) : ∀ (d k i : Nat), i + d = a.length → d < k → scullerlaw12_big.l0 k a ((a.take i).flatten.length : Int) (i : Int) = some (decide (a.flatten.length > 300)) := by
  intro d
  induction d with
  | zero =>
    intro k i hi hk
    obtain ⟨k, rfl⟩ : ∃ j, k = j + 1 := ⟨k - 1, by omega⟩
    rw [scullerlaw12_big.l0, if_neg (by omega), List.take_of_length_le (by omega)]
    congr 1
    rw [Bool.eq_iff_iff]
    simp only [decide_eq_true_eq]
    omega
  | succ d ih =>
    intro k i hi hk
    obtain ⟨k, rfl⟩ : ∃ j, k = j + 1 := ⟨k - 1, by omega⟩
    have e := flat_len_succ (a := a) (i := i) (by omega)
    have b1 := flat_take_le a (i + 1)
    rw [scullerlaw12_big.l0, if_pos (by omega), if_pos (by omega), show ((a.take i).flatten.length : Int) + ((rd_L1 a (i : Int)).length : Int) = ((a.take (i + 1)).flatten.length : Int) by omega, w64 (by omega) (by omega), w64 (x := (i : Int) + 1) (by omega) (by omega)]
    exact ih k (i + 1) (by omega) (by omega)
theorem big_eq (a : List (List Int)) (hT : a.flatten.length ≤ 100000000) (hl : a.length ≤ 10000000) (k : Nat) (hk : a.length < k) : scullerlaw12_big.f k a = some (decide (a.flatten.length > 300)) := by
  unfold scullerlaw12_big.f
  have := big_l0 a hT hl a.length k 0 (by omega) hk
  simpa using this
theorem rpages_eq (x : Int) (s : List Int) (y : Int) (k : Nat) (hk : 20 < k) : scullerref12_Pages.f k x s y = some (pagesN s : Int) := by
  unfold scullerref12_Pages.f scullerref12_Right.f
  rw [rfits_eq s k hk, Option.bind_some, Option.bind_some]
  unfold pagesN
  by_cases h : fitsB s = true
  · have h16 := ((fitsB_iff s).1 h).2.1
    rw [if_pos h, if_pos h, w64 (x := (s.length : Int) + 3) (by omega) (by omega), Int.tdiv_eq_ediv_of_nonneg (by omega), w64 (by omega) (by omega)]
    congr 1
  · rw [if_neg h, if_neg h]; rfl
theorem take_drop_min {α : Type} (l : List α) (i m : Nat) : (l.take (min (m * i + m) l.length)).drop (m * i) = (l.drop (m * i)).take m := by
  rw [List.drop_take]
  by_cases h : m * i + m ≤ l.length
  · rw [Nat.min_eq_left h, show m * i + m - m * i = m by omega]
  · rw [Nat.min_eq_right (by omega), List.take_of_length_le (by rw [List.length_drop]; omega), List.take_of_length_le (by rw [List.length_drop]; omega)]
theorem chunk_any (a : List (List Int)) (hl : a.length ≤ 10000000) (hT : a.flatten.length ≤ 1000000) (i : Int) (k : Nat) (hk : 10000040 < k) :
    mani_Chunk.f k a i = some (if fitsB (lens a) = true then PieceB.pieceAt (wbytes a.flatten) 64 i else []) := by
  unfold mani_Chunk.f
  rw [aright_eq a (by omega) k (by omega) (by omega), Option.bind_some]
  by_cases hf : fitsB (lens a) = true
  · rw [if_pos hf, if_pos hf, abytes_eq (by omega), Option.bind_some]
    unfold mani_piece_byte.f
    rw [if_pos (by rw [wbytes_length]; omega)]; rfl
  · rw [if_neg hf, if_neg hf]
theorem rchunk_any (a : List (List Int)) (hu : ∀ s ∈ a, U64s s) (hl : a.length ≤ 10000000) (hT : a.flatten.length ≤ 1000000) (i : Int) (k : Nat) (hk : 30000000 < k) :
    scullerref12_Chunk.f k a i = some (if fitsB (lens a) = true then PieceB.pieceAt (wbytes a.flatten) 64 i else []) := by
  unfold scullerref12_Chunk.f PieceB.pieceAt
  have hlen := wbytes_length a.flatten
  rw [rbytes_eq a hu hl hT k (by omega), Option.bind_some, rright_eq a (by omega) k (by omega) (by omega), Option.bind_some, if_pos (by omega)]
  by_cases hf : fitsB (lens a) = true
  · rw [if_pos hf]
    by_cases h0 : i < 0
    · rw [if_pos (Or.inr (Or.inl h0)), if_neg (by omega)]
    obtain ⟨j, rfl⟩ : ∃ j : Nat, i = j := ⟨i.toNat, by omega⟩
    rw [if_pos (show (0 : Int) ≤ (j : Int) by omega), Int.toNat_natCast, show ((64 : Int)).toNat = 64 from rfl]
    by_cases h1 : ((wbytes a.flatten).length : Int) ≤ 64 * (j : Int)
    · rw [if_pos (Or.inr (Or.inr h1)), List.drop_of_length_le (by omega), List.take_nil]
    · rw [if_neg (fun q => q.elim (fun q => absurd (hf.symm.trans q) (by decide)) (fun q => q.elim h0 h1)), take_drop_min]
  · rw [if_neg hf, if_pos (Or.inl (by simpa using hf))]
theorem rpage_any (x : Int) (s : List Int) (y i : Int) (k : Nat) (hk : 20 < k) : scullerref12_Page.f k x s y i = some (if fitsB s = true then PieceI.pieceAt s 4 i else []) := by
  unfold scullerref12_Page.f PieceI.pieceAt
  rw [rpages_eq x s y k hk, Option.bind_some]
  unfold pagesN
  by_cases hf : fitsB s = true
  · have h16 := ((fitsB_iff s).1 hf).2.1
    rw [if_pos hf, if_pos hf]
    by_cases h0 : i < 0
    · rw [if_pos (Or.inl h0), if_neg (by omega)]
    obtain ⟨j, rfl⟩ : ∃ j : Nat, i = j := ⟨i.toNat, by omega⟩
    rw [if_pos (show (0 : Int) ≤ (j : Int) by omega), Int.toNat_natCast, show ((4 : Int)).toNat = 4 from rfl]
    by_cases h1 : (j : Int) ≥ (((s.length + 3) / 4 : Nat) : Int)
    · rw [if_pos (Or.inr h1), List.drop_of_length_le (by omega), List.take_nil]
    · rw [if_neg (by omega), if_pos (by omega), take_drop_min]
  · rw [if_neg hf, if_neg hf, if_pos (by omega)]
theorem cuts_true (a : List (List Int)) (hu : ∀ s ∈ a, U64s s) (hl : a.length ≤ 10000000) (hT : a.flatten.length ≤ 1000000) (x : Int) (s : List Int) (y i : Int) (k : Nat) (hk : 30000000 < k) : scullerlaw12_cuts.f k a x s y i = some true := by
  unfold scullerlaw12_cuts.f
  rw [chunk_any a hl hT i k (by omega), Option.bind_some, rchunk_any a hu hl hT i k (by omega), Option.bind_some, if_pos rfl, page_eq x s y i k (by omega), Option.bind_some, rpage_any x s y i k (by omega), Option.bind_some]
  have hle : (if fitsB s = true then PieceI.pieceAt s 4 i else []).length ≤ 4 := by
    split
    · unfold PieceI.pieceAt
      split
      · rw [List.length_take]; exact Nat.min_le_left _ _
      · simp
    · simp
  rw [sameInts_eq _ _ (by omega) k (by omega), Option.bind_some, decide_eq_true rfl]
theorem rjoin_l0 (P : List (List Int)) (hl : P.length < 1000000) : ∀ (d k i : Nat), i + d = P.length → d + 25 < k → (P.take i).flatten.length ≤ 4 * i →
    scullerref12_Join.l0 k P (P.take i).flatten (i : Int) = if pagesB 0 (P.drop i) = true then (if fitsB P.flatten = true then some (P.flatten, true) else some ([], false)) else some ([], false) := by
  intro d
  induction d with
  | zero =>
    intro k i hi hk ht
    obtain ⟨k, rfl⟩ : ∃ q, k = q + 1 := ⟨k - 1, by omega⟩
    rw [scullerref12_Join.l0, if_neg (by omega), List.drop_of_length_le (by omega), pagesB, if_pos rfl, List.take_of_length_le (by omega), rfits_eq _ k (by omega), Option.bind_some]
  | succ d ih =>
    intro k i hi hk ht
    obtain ⟨k, rfl⟩ : ∃ q, k = q + 1 := ⟨k - 1, by omega⟩
    have hr : P.drop i = rd_L6 P (i : Int) :: P.drop (i + 1) := by
      unfold rd_L6
      rw [Int.toNat_natCast, List.drop_eq_getElem_cons (show i < P.length by omega), List.getD_eq_getElem?_getD, List.getElem?_eq_getElem (show i < P.length by omega)]; rfl
    have hs : (P.take (i + 1)).flatten = (P.take i).flatten ++ rd_L6 P (i : Int) := by
      unfold rd_L6
      rw [List.take_succ_eq_append_getElem (show i < P.length by omega), List.flatten_append, Int.toNat_natCast, List.getD_eq_getElem?_getD, List.getElem?_eq_getElem (show i < P.length by omega)]; simp
    have hn := ih k (i + 1) (by omega) (by omega)
    rw [show ((i + 1 : Nat) : Int) = (i : Int) + 1 by omega, hs] at hn
    have hd : ((P.drop (i + 1)).isEmpty = true ∧ d = 0) ∨ ((P.drop (i + 1)).isEmpty = false ∧ 0 < d) := by
      have hlen : (P.drop (i + 1)).length = d := by rw [List.length_drop]; omega
      cases hh : P.drop (i + 1) with
      | nil => rw [hh] at hlen; exact .inl ⟨rfl, by simpa using hlen.symm⟩
      | cons a b => rw [hh] at hlen; exact .inr ⟨rfl, by rw [← hlen]; simp⟩
    rw [scullerref12_Join.l0, if_pos (by omega), if_pos (by omega), w64 (x := (P.length : Int) - 1) (by omega) (by omega), w64 (x := (i : Int) + 1) (by omega) (by omega), hr]
    generalize rd_L6 P (i : Int) = p at hn
    generalize hrest : P.drop (i + 1) = rest at hd hn
    rw [pagesB]
    rw [List.length_append] at hn
    by_cases h1 : (p.length : Int) < 1
    · rw [if_pos h1, decide_eq_false (show ¬ 1 ≤ p.length by omega)]; simp
    rw [if_neg h1, decide_eq_true (show 1 ≤ p.length by omega)]
    by_cases h2 : (p.length : Int) > 4
    · rw [if_pos h2, decide_eq_false (show ¬ p.length ≤ 4 by omega)]; simp
    rw [if_neg h2, decide_eq_true (show p.length ≤ 4 by omega)]
    have hn := hn (by omega)
    rcases hd with ⟨he, hd0⟩ | ⟨he, hd0⟩
    · rw [if_neg (by omega), if_pos (by omega), hn, he]; simp
    · rw [if_pos (by omega), he]
      by_cases h4 : (p.length : Int) < 4
      · rw [if_pos h4, decide_eq_false (show ¬ 4 ≤ p.length by omega)]; simp
      · rw [if_neg h4, if_pos (by omega), hn, decide_eq_true (show 4 ≤ p.length by omega)]; simp
theorem rjoin_eq (P : List (List Int)) (hl : P.length < 1000000) (k : Nat) (hk : P.length + 25 < k) : scullerref12_Join.f k P = some (joinF P) := by
  unfold scullerref12_Join.f joinF
  have := rjoin_l0 P hl P.length k 0 (by omega) (by omega) (by simp)
  rw [show ((0 : Nat) : Int) = 0 from rfl, List.drop_zero, List.take_zero, List.flatten_nil] at this
  rw [this]
  by_cases h : pagesB 0 P = true
  · rw [if_pos h]
    by_cases hf : fitsB P.flatten = true
    · rw [if_pos hf, if_pos ⟨h, hf⟩]
    · rw [if_neg hf, if_neg (fun q => hf q.2)]
  · rw [if_neg h, if_neg (fun q => h q.1)]
theorem join_true (P : List (List Int)) (hl : P.length < 100000) (k : Nat) (hk : 500000 < k) : scullerlaw12_join.f k P = some true := by
  unfold scullerlaw12_join.f
  rw [join_eq P (by omega) k (by omega), Option.bind_some, rjoin_eq P (by omega) k (by omega), Option.bind_some]
  have hle : (joinF P).1.length < 500000 := by
    unfold joinF
    split
    · rename_i h
      have := pagesB_le P h.1
      show P.flatten.length < 500000
      omega
    · simp
  rw [sameInts_eq _ _ (by omega) k (by omega), Option.bind_some, decide_eq_true rfl, if_pos rfl]
  simp
end Go.Proofs.Ytliohoalackhiaa.N
