/- The bits of a row of bytes, told by 'B l i' (is bit i of l set?); what bits.Make computes. Conditions: those in each theorem. -/
import Derived.Test.YtcjicfpdmegckaaKx4
import Derived.Test.YtcjicfpdmegckaaKx3
import Derived.Test.YtcjicfpdmegckaaKCrc
namespace Go.Proofs.Ytcjicfpdmegckaa.K
open Go.RowKit Go.Proofs.YtcjicfpdmegckaaW.PrintWords Go.Proofs.YtcjicfpdmegckaaW.PrintLast Go.Proofs.YtcjicfpdmegckaaW.PrintMore Go.Proofs.Ytcjicfpdmegckaa.Num

theorem Bytes.at_ {l : List Int} (h : Bytes l) (j : Nat) : 0 ≤ l.getD j 0 ∧ l.getD j 0 ≤ 255 := by
  by_cases hj : j < l.length
  · rw [List.getD_eq_getElem?_getD, List.getElem?_eq_getElem hj]; exact h _ (List.getElem_mem hj)
  · rw [List.getD_eq_getElem?_getD, List.getElem?_eq_none (by omega)]; simp
theorem Bytes.set {l : List Int} (h : Bytes l) (j : Nat) {v : Int} (hv : 0 ≤ v ∧ v ≤ 255) : Bytes (l.set j v) := fun x hx => by
  rcases List.mem_or_eq_of_mem_set hx with hx | rfl
  · exact h x hx
  · exact hv
theorem Bytes.zeros (n : Nat) : Bytes (List.replicate n 0) := fun x hx => by rw [List.eq_of_mem_replicate hx]; omega
/-- Is bit i of l set? -/
def B (l : List Int) (i : Nat) : Bool := (l.getD (i / 8) 0).toNat.testBit (i % 8)
theorem B_out {l : List Int} {i : Nat} (h : 8 * l.length ≤ i) : B l i = false := by
  unfold B
  rw [List.getD_eq_getElem?_getD, List.getElem?_eq_none (by omega)]
  exact Nat.zero_testBit _
theorem B_lt {l : List Int} {i : Nat} (h : B l i = true) : i < 8 * l.length := by
  rcases Nat.lt_or_ge i (8 * l.length) with h1 | h1
  · exact h1
  · rw [B_out h1] at h; cases h
/-- with one bit more -/
def setB (l : List Int) (i : Nat) : List Int := l.set (i / 8) (((l.getD (i / 8) 0).toNat ||| 2 ^ (i % 8) : Nat) : Int)
theorem or_fin : ∀ x : Fin 256, ∀ t : Fin 8, Go.bits .or .u8 (x.val : Int) (shl .u8 1 (t.val : Int)) = ((x.val ||| 2 ^ t.val : Nat) : Int) ∧ (x.val ||| 2 ^ t.val) < 256 := by decide +kernel
theorem or_eq {x : Int} (h : 0 ≤ x ∧ x ≤ 255) {t : Nat} (ht : t < 8) : Go.bits .or .u8 x (shl .u8 1 (t : Int)) = ((x.toNat ||| 2 ^ t : Nat) : Int) ∧ (x.toNat ||| 2 ^ t) < 256 := by
  have := or_fin ⟨x.toNat, by omega⟩ ⟨t, ht⟩
  simp only [Int.toNat_of_nonneg h.1] at this
  exact this
theorem setB_bytes {l : List Int} (hb : Bytes l) (i : Nat) : Bytes (setB l i) :=
  hb.set _ (by have := (or_eq (hb.at_ (i / 8)) (show i % 8 < 8 by omega)).2; omega)
theorem setB_length (l : List Int) (i : Nat) : (setB l i).length = l.length := List.length_set
theorem setB_out {l : List Int} {i : Nat} (h : 8 * l.length ≤ i) : setB l i = l := by
  unfold setB
  exact List.set_eq_of_length_le (by omega)
theorem B_set (l : List Int) (i j : Nat) : B (setB l i) j = (B l j || decide (i = j ∧ i < 8 * l.length)) := by
  by_cases h : i < 8 * l.length
  · unfold B setB
    rw [List.getD_eq_getElem?_getD, List.getD_eq_getElem?_getD, List.getD_eq_getElem?_getD]
    by_cases e : i / 8 = j / 8
    · rw [e, List.getElem?_set_self (by omega), Option.getD_some, Int.toNat_natCast, Nat.testBit_or, Nat.testBit_two_pow]
      congr 1
      exact decide_eq_decide.2 ⟨fun q => ⟨by omega, h⟩, fun q => by omega⟩
    · rw [List.getElem?_set_ne e, decide_eq_false (by omega), Bool.or_false]
  · rw [setB_out (by omega), decide_eq_false (by omega), Bool.or_false]
theorem make_nat {n : Nat} (h : n ≤ 65536) : bits_Make.f (n : Int) = some (List.replicate ((n + 7) / 8) 0) := by
  have e : mx 0 (mn (n : Int) 65536) = (n : Int) := by unfold mx mn; split <;> split <;> omega
  have e2 : word_Ceil.f (n : Int) 8 = some (((n + 7) / 8 : Nat) : Int) := by
    unfold word_Ceil.f
    rw [if_neg (by omega), if_neg (by omega), if_neg (by omega), if_neg (by omega), if_neg (by omega), w64 (x := (n : Int) + 8) (by omega) (by omega), w64 (x := (n : Int) + 8 - 1) (by omega) (by omega), tdivn (by omega), w64 (by omega) (by omega)]
    congr 1; omega
  unfold bits_Make.f
  rw [e, e2, Option.bind_some, if_pos (by omega), if_pos (by omega), Int.toNat_natCast]
theorem B_zeros (n i : Nat) : B (List.replicate n 0) i = false := by
  unfold B
  rw [List.getD_eq_getElem?_getD, List.getElem?_replicate]
  split <;> exact Nat.zero_testBit _
end Go.Proofs.Ytcjicfpdmegckaa.K
