/- What token.Right, token.Encode and token.Decode compute, in plain lists of bytes; the chapter's example. Conditions: those in each theorem. -/
import Derived.Test.YtcjicfpdmegckaaKx6
import Derived.Test.YtcjicfpdmegckaaKx5
import Derived.Test.YtcjicfpdmegckaaKgDecode
import Derived.Test.YtcjicfpdmegckaaKFits
import Derived.Test.YtcjicfpdmegckaaKBitsMR
import Derived.Test.YtcjicfpdmegckaaKPutGet
namespace Go.Proofs.Ytcjicfpdmegckaa.K
open Go.RowKit Go.Proofs.YtcjicfpdmegckaaW.PrintWords Go.Proofs.YtcjicfpdmegckaaW.PrintLast Go.Proofs.YtcjicfpdmegckaaW.PrintMore Go.Proofs.Ytcjicfpdmegckaa.Num Go.Proofs.Ytcjicfpdmegckaa.CrcN

/-- bytes, and their sum behind them -/
def sealed (b : List Int) : List Int := b ++ ints (four (sumN (nats b)))
theorem four_bytes (t : Nat) : Bytes (ints (four t)) := ints_bytes (fun x hx => by simp [four] at hx; omega)
theorem four_length (t : Nat) : (ints (four t)).length = 4 := by simp [four, ints]
theorem sealed_bytes {b : List Int} (h : Bytes b) : Bytes (sealed b) := h.append (four_bytes _)
theorem sealed_length (b : List Int) : (sealed b).length = b.length + 4 := by unfold sealed; rw [List.length_append, four_length]
theorem sealed_take (b : List Int) : (sealed b).take ((sealed b).length - 4) = b := by
  rw [sealed_length]; unfold sealed; rw [show b.length + 4 - 4 = b.length by omega, List.take_left]
theorem seal_sealed (k : Nat) (hk : 8 < k) (l : List Int) (h : Bytes l) (hl : l.length < 140737488355320) : crc_Seal.f k l = some (sealed l) := seal_eq k hk l h hl
theorem right_sealed (k : Nat) (hk : 8 < k) (b : List Int) (h : Bytes b) (hl : b.length < 140737488355000) : crc_Right.f k (sealed b) = some true := by
  have ht := sumN_lt (nats b) (nats_lt h)
  have := right_four k hk b h (by omega) (sumN (nats b)) ht
  unfold sealed
  rw [this]; simp

/-- a token that may be -/
def TokOK (ss kn : List Int) : Prop := fitsB ss = true ∧ kn.length = (chunksN ss + 7) / 8 ∧ ∀ i, chunksN ss ≤ i → B kn i = false
theorem tokRight_eq (x : Int) (ss : List Int) (y : Int) (kn : List Int) (hb : Bytes kn) (hl : kn.length < 140737488355328) (k : Nat) (hk : 20 < k) : ∃ r, token_Right.f k x ss y kn = some r ∧ (r = true ↔ TokOK ss kn) := by
  unfold token_Right.f
  rw [maniRight_eq x ss y k hk, Option.bind_some]
  by_cases h : fitsB ss = true
  · rw [if_pos h, chunks_eq x ss y k hk, Option.bind_some]
    obtain ⟨r, e, hr⟩ := right_nat hb hl (n := chunksN ss) (by have := chunksN_le ss; omega)
    exact ⟨r, by rw [e]; rfl, hr.trans ⟨fun q => ⟨h, q⟩, fun q => q.2⟩⟩
  · rw [if_neg h]
    exact ⟨false, rfl, ⟨fun q => (by cases q), fun q => absurd q.1 h⟩⟩
/-- the bytes of sizes, two each -/
def twos : List Int → List Int
  | [] => []
  | x :: t => putL x 2 ++ twos t
theorem twos_append (a b : List Int) : twos (a ++ b) = twos a ++ twos b := by
  induction a with
  | nil => rfl
  | cons x t ih => simp only [List.cons_append, twos, ih, List.append_assoc]
theorem twos_length (s : List Int) : (twos s).length = 2 * s.length := by
  induction s with
  | nil => rfl
  | cons x t ih => simp only [twos, List.length_append, putL_length, List.length_cons, ih]; omega
theorem twos_bytes (s : List Int) : Bytes (twos s) := by
  induction s with
  | nil => exact fun x hx => by cases hx
  | cons x t ih => exact (putL_bytes x 2).append ih
/-- a token as bytes, but for the sum behind them -/
def encL (x : Int) (ss : List Int) (y : Int) (kn : List Int) : List Int := (((putL x 8 ++ putL y 4) ++ putL ss.length 1) ++ twos ss) ++ kn
theorem encL_length (x : Int) (ss : List Int) (y : Int) (kn : List Int) : (encL x ss y kn).length = 13 + 2 * ss.length + kn.length := by
  unfold encL; simp only [List.length_append, putL_length, twos_length]
theorem encL_bytes (x : Int) (ss : List Int) (y : Int) {kn : List Int} (h : Bytes kn) : Bytes (encL x ss y kn) :=
  ((((putL_bytes _ _).append (putL_bytes _ _)).append (putL_bytes _ _)).append (twos_bytes _)).append h

theorem enc_l0 (ss : List Int) (h16 : ss.length ≤ 16) (hm : ∀ x ∈ ss, 0 ≤ x ∧ x ≤ 4096) (kn : List Int) (hb : Bytes kn) (hkl : kn.length ≤ 100) (b : List Int) (hbb : Bytes b) (hbl : b.length = 13) (x y : Int) : ∀ (d k i : Nat), i + d = ss.length → d + 10 < k →
    token_Encode.l0 k (b ++ twos (ss.take i)) ss (ss.length : Int) (i : Int) x ss y kn = some (sealed ((b ++ twos ss) ++ kn), 0) := by
  intro d
  induction d with
  | zero =>
    intro k i hi hk
    obtain ⟨k, rfl⟩ : ∃ j, k = j + 1 := ⟨k - 1, by omega⟩
    have hl : ((b ++ twos ss) ++ kn).length ≤ 200 := by simp only [List.length_append, twos_length]; omega
    rw [token_Encode.l0, if_neg (by omega), List.take_of_length_le (by omega), if_pos (by simp only [List.length_append, twos_length]; omega), seal_sealed k (by omega) _ ((hbb.append (twos_bytes _)).append hb) (by omega)]; rfl
  | succ d ih =>
    intro k i hi hk
    obtain ⟨k, rfl⟩ : ∃ j, k = j + 1 := ⟨k - 1, by omega⟩
    have e : ss.take (i + 1) = ss.take i ++ [rd ss (i : Int)] := by
      unfold rd
      rw [List.take_succ_eq_append_getElem (by omega), Int.toNat_natCast, List.getD_eq_getElem?_getD, List.getElem?_eq_getElem (show i < ss.length by omega)]; rfl
    have hx : 0 ≤ rd ss (i : Int) ∧ rd ss (i : Int) ≤ 4096 := by
      unfold rd
      rw [Int.toNat_natCast, List.getD_eq_getElem?_getD, List.getElem?_eq_getElem (show i < ss.length by omega)]
      exact hm _ (List.getElem_mem (show i < ss.length by omega))
    have a2 : asked 2 = 2 := by decide
    have e2 : b ++ twos (ss.take (i + 1)) = (b ++ twos (ss.take i)) ++ putL (rd ss (i : Int)) 2 := by
      rw [e, twos_append, List.append_assoc]; simp [twos]
    have hl : (twos (ss.take i)).length ≤ 32 := by rw [twos_length, List.length_take]; omega
    rw [token_Encode.l0, if_pos (by omega), if_pos (by omega), if_pos (by omega), put_eq k (by omega), Option.bind_some, a2, u64id (by omega) (by omega), if_pos (by rw [List.length_append, putL_length]; omega), ← e2, w64 (x := (i : Int) + 1) (by omega) (by omega)]
    exact ih k (i + 1) (by omega) (by omega)
theorem enc_ok {ss kn : List Int} (h : TokOK ss kn) (hb : Bytes kn) {x y : Int} (hy : 0 ≤ y ∧ y ≤ 4294967295) (k : Nat) (hk : 40 < k) : token_Encode.f k x ss y kn = some (sealed (encL x ss y kn), 0) := by
  have hc := chunksN_le ss
  have hkl : kn.length ≤ 100 := by have := h.2.1; omega
  obtain ⟨r, e, hr⟩ := tokRight_eq x ss y kn hb (by omega) k (by omega)
  obtain rfl : r = true := hr.2 h
  obtain ⟨_, h16, _, _, _⟩ := (fitsB_iff ss).1 h.1
  have a8 : asked 8 = 8 := by decide
  have a4 : asked 4 = 4 := by decide
  have a1 : asked 1 = 1 := by decide
  unfold token_Encode.f
  rw [e, Option.bind_some, if_pos rfl, put_eq k (by omega), Option.bind_some, put_eq k (by omega), Option.bind_some, a8, a4, u64id (x := y) (by omega) (by omega), if_pos (by rw [putL_length, putL_length]; omega), Option.bind_some, put_eq k (by omega), Option.bind_some, a1, u64id (x := (ss.length : Int)) (by omega) (by omega),
    if_pos (by rw [List.length_append, putL_length, putL_length, putL_length]; omega)]
  have := enc_l0 ss h16 (fits_mem h.1) kn hb hkl ((putL x 8 ++ putL y 4) ++ putL ss.length 1) (((putL_bytes _ _).append (putL_bytes _ _)).append (putL_bytes _ _)) (by simp only [List.length_append, putL_length]) x y ss.length k 0 (by omega) (by omega)
  simpa [twos, encL] using this
theorem enc_no {x : Int} {ss : List Int} {y : Int} {kn : List Int} (h : ¬ TokOK ss kn) (hb : Bytes kn) (hl : kn.length < 140737488355328) (k : Nat) (hk : 20 < k) : token_Encode.f k x ss y kn = some ([], 1) := by
  obtain ⟨r, e, hr⟩ := tokRight_eq x ss y kn hb hl k hk
  have : r = false := by cases r with | false => rfl | true => exact absurd (hr.1 rfl) h
  subst this
  unfold token_Encode.f
  rw [e]; rfl
end Go.Proofs.Ytcjicfpdmegckaa.K
