/- The bits of a row of bytes, told by 'B l i' (is bit i of l set?); what bits.Make computes. Conditions: those in each theorem. -/
/- How many bits of a row of bytes are set: what the document's Get and Count of bits compute. Conditions: those in each theorem. -/
import Derived.Test.YtliohoalackhiaaMEx1
import Derived.Test.YtliohoalackhiaaMEgClone
import Derived.Test.YtliohoalackhiaaMEEBase
import Derived.Test.YtliohoalackhiaaMNum
import Derived.Laws.BitsAllLaws
import Derived.Test.YtliohoalackhiaaMEx2
import Derived.Test.YtliohoalackhiaaMEx3
namespace Go.Proofs.Ytliohoalackhiaa.E
open Go.RowKit Go.Proofs.YtliohoalackhiaaW.PrintWords Go.Proofs.YtliohoalackhiaaW.PrintLast Go.Proofs.YtliohoalackhiaaW.PrintMore Go.Proofs.Ytliohoalackhiaa.Num
theorem Bytes.at_ {l : List Int} (h : Bytes l) (j : Nat) : 0 ≤ l.getD j 0 ∧ l.getD j 0 ≤ 255 := by
  by_cases hj : j < l.length
  · rw [List.getD_eq_getElem?_getD, List.getElem?_eq_getElem hj]; exact h _ (List.getElem_mem hj)
  · rw [List.getD_eq_getElem?_getD, List.getElem?_eq_none (by omega)]; simp
theorem Bytes.set {l : List Int} (h : Bytes l) (j : Nat) {v : Int} (hv : 0 ≤ v ∧ v ≤ 255) : Bytes (l.set j v) := fun x hx => by
  rcases List.mem_or_eq_of_mem_set hx with hx | rfl
  · exact h x hx
  · exact hv
theorem Bytes.zeros (n : Nat) : Bytes (List.replicate n 0) := fun x hx => by rw [List.eq_of_mem_replicate hx]; omega
/-- Is bit i of l set? -/
def B (l : List Int) (i : Nat) : Bool := (l.getD (i / 8) 0).toNat.testBit (i % 8)
theorem B_out {l : List Int} {i : Nat} (h : 8 * l.length ≤ i) : B l i = false := by
  unfold B
  rw [List.getD_eq_getElem?_getD, List.getElem?_eq_none (by omega)]
  exact Nat.zero_testBit _
/-- with one bit more -/
def setB (l : List Int) (i : Nat) : List Int := l.set (i / 8) (((l.getD (i / 8) 0).toNat ||| 2 ^ (i % 8) : Nat) : Int)
theorem or_fin : ∀ x : Fin 256, ∀ t : Fin 8, Go.bits .or .u8 (x.val : Int) (shl .u8 1 (t.val : Int)) = ((x.val ||| 2 ^ t.val : Nat) : Int) ∧ (x.val ||| 2 ^ t.val) < 256 := by decide +kernel
theorem or_eq {x : Int} (h : 0 ≤ x ∧ x ≤ 255) {t : Nat} (ht : t < 8) : Go.bits .or .u8 x (shl .u8 1 (t : Int)) = ((x.toNat ||| 2 ^ t : Nat) : Int) ∧ (x.toNat ||| 2 ^ t) < 256 := by
  have := or_fin ⟨x.toNat, by omega⟩ ⟨t, ht⟩
  simp only [Int.toNat_of_nonneg h.1] at this
  exact this
theorem setB_bytes {l : List Int} (hb : Bytes l) (i : Nat) : Bytes (setB l i) :=
  hb.set _ (by have := (or_eq (hb.at_ (i / 8)) (show i % 8 < 8 by omega)).2; omega)
theorem setB_length (l : List Int) (i : Nat) : (setB l i).length = l.length := List.length_set
theorem setB_out {l : List Int} {i : Nat} (h : 8 * l.length ≤ i) : setB l i = l := by
  unfold setB
  exact List.set_eq_of_length_le (by omega)
theorem B_set (l : List Int) (i j : Nat) : B (setB l i) j = (B l j || decide (i = j ∧ i < 8 * l.length)) := by
  by_cases h : i < 8 * l.length
  · unfold B setB
    rw [List.getD_eq_getElem?_getD, List.getD_eq_getElem?_getD, List.getD_eq_getElem?_getD]
    by_cases e : i / 8 = j / 8
    · rw [e, List.getElem?_set_self (by omega), Option.getD_some, Int.toNat_natCast, Nat.testBit_or, Nat.testBit_two_pow]
      congr 1
      exact decide_eq_decide.2 ⟨fun q => ⟨by omega, h⟩, fun q => by omega⟩
    · rw [List.getElem?_set_ne e, decide_eq_false (by omega), Bool.or_false]
  · rw [setB_out (by omega), decide_eq_false (by omega), Bool.or_false]
theorem make_nat {n : Nat} (h : n ≤ 65536) : bits_Make.f (n : Int) = some (List.replicate ((n + 7) / 8) 0) := by
  have e : mx 0 (mn (n : Int) 65536) = (n : Int) := by unfold mx mn; split <;> split <;> omega
  have e2 : word_Ceil.f (n : Int) 8 = some (((n + 7) / 8 : Nat) : Int) := by
    unfold word_Ceil.f
    rw [if_neg (by omega), if_neg (by omega), if_neg (by omega), if_neg (by omega), if_neg (by omega), w64 (x := (n : Int) + 8) (by omega) (by omega), w64 (x := (n : Int) + 8 - 1) (by omega) (by omega), tdivn (by omega), w64 (by omega) (by omega)]
    congr 1; omega
  unfold bits_Make.f
  rw [e, e2, Option.bind_some, if_pos (by omega), if_pos (by omega), Int.toNat_natCast]
theorem B_zeros (n i : Nat) : B (List.replicate n 0) i = false := by
  unfold B
  rw [List.getD_eq_getElem?_getD, List.getElem?_replicate]
  split <;> exact Nat.zero_testBit _
theorem clone_eq {l : List Int} (hl : l.length < 140737488355328) : bytes_Clone.f l = some l := by
  unfold bytes_Clone.f; rw [if_pos hl]
theorem set_eq {l : List Int} (hb : Bytes l) (hl : l.length < 140737488355328) {a : Int} (h1 : a ≤ 9223372036854775807) : bits_Set.f l a = some (if 0 ≤ a then setB l a.toNat else l) := by
  unfold bits_Set.f
  rw [clone_eq hl, Option.bind_some]
  by_cases h0 : a ≥ 0
  · obtain ⟨n, rfl⟩ : ∃ n : Nat, a = n := ⟨a.toNat, by omega⟩
    rw [if_pos h0, tdivn h0, tmodn h0, w64 (by omega) (by omega), if_pos (show (0 : Int) ≤ (n : Int) from h0), Int.toNat_natCast]
    by_cases hl : (n : Int) / 8 < (l.length : Int)
    · rw [if_pos hl, if_pos (by omega), if_pos (by omega)]
      have e : ((n : Int) / 8).toNat = n / 8 := by omega
      have e2 : (n : Int) % 8 = ((n % 8 : Nat) : Int) := by omega
      unfold rd setB
      rw [e, e2, (or_eq (hb.at_ _) (by omega)).1]
    · rw [if_neg hl, setB_out (by omega)]
  · rw [if_neg h0, if_neg (by omega)]
end Go.Proofs.Ytliohoalackhiaa.E
namespace Go.Proofs.Ytliohoalackhiaa.E
open Go.RowKit Go.Proofs.YtliohoalackhiaaW.PrintWords Go.Proofs.YtliohoalackhiaaW.PrintLast Go.Proofs.YtliohoalackhiaaW.PrintMore Go.Proofs.Ytliohoalackhiaa.Num
theorem refget_loop (c t : Nat) (hc : c ≤ 255) (ht : t < 8) (a : Int) (ha : Int.tmod a 8 = (t : Int)) : ∀ (d k i : Nat), i + d = t → d < k → scullerref03_Get.l0 k a ((c / 2 ^ i : Nat) : Int) (i : Int) = some (c.testBit t) := by
  intro d
  induction d with
  | zero =>
    intro k i hi hk
    obtain ⟨k, rfl⟩ : ∃ j, k = j + 1 := ⟨k - 1, by omega⟩
    obtain rfl : i = t := by omega
    rw [Nat.testBit_eq_decide_div_mod_eq]
    generalize c / 2 ^ i = q
    rw [scullerref03_Get.l0, ha, if_neg (by omega), tmodn (by omega)]
    congr 1
    have e : ((q : Nat) : Int) % 2 = ((q % 2 : Nat) : Int) := by omega
    rw [e]
    by_cases h : q % 2 = 1
    · rw [h]; rfl
    · rw [show q % 2 = 0 by omega]; rfl
  | succ d ih =>
    intro k i hi hk
    obtain ⟨k, rfl⟩ : ∃ j, k = j + 1 := ⟨k - 1, by omega⟩
    have hle : c / 2 ^ i ≤ 255 := Nat.le_trans (Nat.div_le_self _ _) hc
    have hr := ih k (i + 1) (by omega) (by omega)
    rw [Nat.pow_succ, ← Nat.div_div_eq_div_mul] at hr
    generalize c / 2 ^ i = q at hle hr
    rw [scullerref03_Get.l0, ha, if_pos (by omega), tdivn (by omega), w64 (by omega) (by omega), w64 (by omega) (by omega)]
    exact hr
theorem refget_eq {l : List Int} (hb : Bytes l) {a : Int} (h1 : a ≤ 9223372036854775807) (k : Nat) (hk : 9 < k) : scullerref03_Get.f k l a = some (decide (0 ≤ a) && B l a.toNat) := by
  obtain ⟨k, rfl⟩ : ∃ j, k = j + 1 := ⟨k - 1, by omega⟩
  unfold scullerref03_Get.f
  by_cases h0 : a < 0
  · rw [if_pos h0, scullerref03_Get.j0, if_pos rfl, decide_eq_false (by omega)]; rfl
  · obtain ⟨n, rfl⟩ : ∃ n : Nat, a = n := ⟨a.toNat, by omega⟩
    rw [if_neg h0, tdivn (by omega), w64 (by omega) (by omega), decide_eq_true (show (0 : Int) ≤ (n : Int) by omega), Bool.true_and, Int.toNat_natCast, scullerref03_Get.j0]
    by_cases hl : (n : Int) / 8 ≥ (l.length : Int)
    · rw [if_pos (decide_eq_true hl), B_out (by omega)]
    · have hx := hb.at_ (n / 8)
      rw [if_neg (by simpa using hl), tdivn (by omega), w64 (by omega) (by omega), if_pos (by omega), if_pos (by omega)]
      have e : rd l ((n : Int) / 8) = ((l.getD (n / 8) 0).toNat : Int) := by unfold rd; rw [show ((n : Int) / 8).toNat = n / 8 by omega]; omega
      rw [e, w64 (by omega) (by omega)]
      have := refget_loop (l.getD (n / 8) 0).toNat (n % 8) (by omega) (by omega) (n : Int) (by rw [tmodn (by omega)]; omega) (n % 8) k 0 (by omega) (by omega)
      rw [Nat.pow_zero, Nat.div_one] at this
      exact this
theorem refget_nat {l : List Int} (hb : Bytes l) {i : Nat} (h1 : (i : Int) ≤ 9223372036854775807) (k : Nat) (hk : 9 < k) : scullerref03_Get.f k l (i : Int) = some (B l i) := by
  rw [refget_eq hb h1 k hk, decide_eq_true (by omega)]; simp
end Go.Proofs.Ytliohoalackhiaa.E
