/- ManiWhole: chunks, one behind the other, are the arena's bytes, as long as they say; pages, likewise, its sizes: for every session and choices. Conditions: none. -/
import Derived.Test.YtliohoalackhiaaUQx13
import Derived.Test.YtliohoalackhiaaUQQAre
import Derived.Test.YtliohoalackhiaaUQQMan
namespace Go.Proofs.Ytliohoalackhiaa.Pure
set_option linter.unusedVariables false
open Go.RowKit Go.Proofs.Ytliohoalackhiaa.Q Go.Proofs.YtliohoalackhiaaW.PrintWords Go.Proofs.YtliohoalackhiaaW.PrintLast Go.Proofs.YtliohoalackhiaaW.PrintMore Go.Proofs.Ytliohoalackhiaa.Num Go.Proofs.Ytliohoalackhiaa.CrcN
theorem pieceB_nat (l : List Int) (m i : Nat) : PieceB.pieceAt l (m : Int) (i : Int) = (l.drop (m * i)).take m := by
  unfold PieceB.pieceAt; rw [if_pos (by omega), Int.toNat_natCast, Int.toNat_natCast]
theorem chunk_eq {a : List (List Int)} (h : Aok a) (i : Int) (k : Nat) (hk : 40 < k) : mani_Chunk.f k a i = some (PieceB.pieceAt (wbytes a.flatten) 64 i) := by
  obtain ⟨h1, h16, h4⟩ := h.len
  have hf : fitsB (lens a) = true := h.f
  unfold mani_Chunk.f
  rw [aright_eq a (by omega) k (by omega) (by omega), Option.bind_some, hf, if_pos rfl, abytes_eq (by omega), Option.bind_some]
  unfold mani_piece_byte.f
  rw [if_pos (by rw [wbytes_length]; omega)]; rfl
theorem whole_l1 (a : List (List Int)) (h : Aok a) (x : Int) (y : Int) : ∀ (d k i : Nat), i + d = pagesN (lens a) → d + 50000 < k →
    scullerlaw12_ManiWhole.l1 k a 0 (wbytes a.flatten) (piecesL (lens a) 4 i) (i : Int) x (lens a) y = some true := by
  obtain ⟨h1, h16, h4⟩ := h.len
  have hf : fitsB (lens a) = true := h.f
  have hll : (lens a).length = a.length := List.length_map _
  have hp : pagesN (lens a) = ((lens a).length + 3) / 4 := if_pos hf
  intro d
  induction d with
  | zero =>
    intro k i hi hk
    obtain ⟨k, rfl⟩ : ∃ q, k = q + 1 := ⟨k - 1, by omega⟩
    obtain rfl : i = pagesN (lens a) := by omega
    have hc := chunksN_cast (lens a)
    have hw : wordsI (lens a) = sumI (lens a) := if_pos hf
    have hfl := flat_len a
    have hB := wbytes_bytes a.flatten
    have hlast : PieceB.pieceAt (wbytes a.flatten) 64 (chunksN (lens a) : Int) = [] := by
      have := pieceB_nat (wbytes a.flatten) 64 (chunksN (lens a))
      rw [show ((64 : Nat) : Int) = 64 from rfl] at this
      rw [this, List.drop_of_length_le (by rw [wbytes_length]; omega), List.take_nil]
    rw [scullerlaw12_ManiWhole.l1, pages_eq x (lens a) y k (by omega), Option.bind_some, if_neg (by omega), join_eq _ (by rw [piecesL_length]; omega) k (by rw [piecesL_length]; omega), Option.bind_some, join_pieces hf]
    dsimp only
    rw [known12_eq k (by omega), Option.bind_some, if_pos rfl, if_pos rfl, rbytes_eq a h.u (by omega) (by omega) k (by omega), Option.bind_some, if_pos rfl, if_pos rfl, rsizes_eq a (by omega) k (by omega), Option.bind_some]
    rw [sameInts_eq (lens a) (lens a) (by omega) k (by omega), Option.bind_some, if_pos (by simp), chunks_eq x (lens a) y k (by omega), Option.bind_some, chunk_eq h _ k (by omega), Option.bind_some, hlast, if_pos (by simp), size_eq x (lens a) y (-1) k (by omega), Option.bind_some]
    unfold sizeN
    rw [if_pos (by omega)]; rfl
  | succ d ih =>
    intro k i hi hk
    obtain ⟨k, rfl⟩ : ∃ q, k = q + 1 := ⟨k - 1, by omega⟩
    have hn := ih k (i + 1) (by omega) (by omega)
    have hpi := pieceI_nat (lens a) 4 i
    rw [show ((4 : Nat) : Int) = 4 from rfl] at hpi
    rw [show ((i + 1 : Nat) : Int) = (i : Int) + 1 by omega, piecesL_succ, ← hpi] at hn
    rw [scullerlaw12_ManiWhole.l1, pages_eq x (lens a) y k (by omega), Option.bind_some, if_pos (by omega), page_eq x (lens a) y (i : Int) k (by omega), Option.bind_some, if_pos hf, if_pos (by rw [piecesL_length]; omega), w64 (x := (i : Int) + 1) (by omega) (by omega), hn]
theorem whole_l0 (a : List (List Int)) (h : Aok a) (x : Int) (y : Int) : ∀ (d k i : Nat), i + d = chunksN (lens a) → d + 60000 < k →
    scullerlaw12_ManiWhole.l0 k a 0 ((wbytes a.flatten).take (64 * i)) (i : Int) x (lens a) y = some true := by
  obtain ⟨h1, h16, h4⟩ := h.len
  have hf : fitsB (lens a) = true := h.f
  have hc := chunksN_cast (lens a)
  have hw : wordsI (lens a) = sumI (lens a) := if_pos hf
  have hfl := flat_len a
  intro d
  induction d with
  | zero =>
    intro k i hi hk
    obtain ⟨k, rfl⟩ : ∃ q, k = q + 1 := ⟨k - 1, by omega⟩
    have h1 := whole_l1 a h x y (pagesN (lens a)) k 0 (by omega) (by
      have hll : (lens a).length = a.length := List.length_map _
      have hp : pagesN (lens a) = ((lens a).length + 3) / 4 := if_pos hf
      omega)
    rw [scullerlaw12_ManiWhole.l0, chunks_eq x (lens a) y k (by omega), Option.bind_some, if_neg (by omega), List.take_of_length_le (by rw [wbytes_length]; omega)]
    exact h1
  | succ d ih =>
    intro k i hi hk
    obtain ⟨k, rfl⟩ : ∃ q, k = q + 1 := ⟨k - 1, by omega⟩
    have hn := ih k (i + 1) (by omega) (by omega)
    have hpi := pieceB_nat (wbytes a.flatten) 64 i
    rw [show ((64 : Nat) : Int) = 64 from rfl] at hpi
    have hpl : (PieceB.pieceAt (wbytes a.flatten) 64 (i : Int)).length = min 64 (8 * a.flatten.length - 64 * i) := by rw [hpi, List.length_take, List.length_drop, wbytes_length]
    have hsz : sizeN (lens a) (i : Int) = ((min 64 (8 * a.flatten.length - 64 * i) : Nat) : Int) := by
      unfold sizeN
      rw [if_neg (by omega), if_neg (by omega), hw]
      omega
    rw [show ((i + 1 : Nat) : Int) = (i : Int) + 1 by omega, ← take_piece, ← hpi] at hn
    rw [scullerlaw12_ManiWhole.l0, chunks_eq x (lens a) y k (by omega), Option.bind_some, if_pos (by omega), chunk_eq h _ k (by omega), Option.bind_some, size_eq x (lens a) y (i : Int) k (by omega), Option.bind_some, hsz, hpl, if_pos rfl, if_neg (by omega), if_pos (by rw [List.length_take, wbytes_length]; omega), w64 (x := (i : Int) + 1) (by omega) (by omega), hn]
theorem ManiWhole : scullerlaw12_ManiWhole.Pure := by
  intro x c n m hx hl hl2 hw hn hm
  have hcb := Bytes.of_wf hw
  obtain ⟨a, ha, hA⟩ := arena12 c n m (bounds_u8 hn) (bounds_u8 hm) hcb 100000 (by omega)
  refine ⟨100000, ?_⟩
  unfold scullerlaw12_ManiWhole.f
  rw [ha, Option.bind_some, of_ok x a hA.f 100000 (by omega), Option.bind_some]
  dsimp only
  have := whole_l0 a hA x ((sumN (nats (manB x a)) : Nat) : Int) (chunksN (lens a)) 100000 0 (by omega) (by have := chunksN_le (lens a); omega)
  rw [Nat.mul_zero, List.take_zero] at this
  exact this
end Go.Proofs.Ytliohoalackhiaa.Pure
