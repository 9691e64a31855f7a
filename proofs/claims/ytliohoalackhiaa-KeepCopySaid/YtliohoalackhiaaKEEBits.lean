/- The bits of a row of bytes, told by 'B l i' (is bit i of l set?); what bits.Make computes. Conditions: those in each theorem. -/
/- How many bits of a row of bytes are set: what the document's Get and Count of bits compute. Conditions: those in each theorem. -/
import Derived.Test.YtliohoalackhiaaKEx1
import Derived.Test.YtliohoalackhiaaKEgClone
import Derived.Test.YtliohoalackhiaaKEEBase
import Derived.Test.YtliohoalackhiaaKNum
import Derived.Laws.BitsAllLaws
import Derived.Test.YtliohoalackhiaaKEx2
namespace Go.Proofs.Ytliohoalackhiaa.E
open Go.RowKit Go.Proofs.YtliohoalackhiaaW.PrintWords Go.Proofs.YtliohoalackhiaaW.PrintLast Go.Proofs.YtliohoalackhiaaW.PrintMore Go.Proofs.Ytliohoalackhiaa.Num
theorem Bytes.at_ {l : List Int} (h : Bytes l) (j : Nat) : 0 ≤ l.getD j 0 ∧ l.getD j 0 ≤ 255 := by
  by_cases hj : j < l.length
  · rw [List.getD_eq_getElem?_getD, List.getElem?_eq_getElem hj]; exact h _ (List.getElem_mem hj)
  · rw [List.getD_eq_getElem?_getD, List.getElem?_eq_none (by omega)]; simp
theorem Bytes.set {l : List Int} (h : Bytes l) (j : Nat) {v : Int} (hv : 0 ≤ v ∧ v ≤ 255) : Bytes (l.set j v) := fun x hx => by
  rcases List.mem_or_eq_of_mem_set hx with hx | rfl
  · exact h x hx
  · exact hv
theorem Bytes.zeros (n : Nat) : Bytes (List.replicate n 0) := fun x hx => by rw [List.eq_of_mem_replicate hx]; omega
/-- Is bit i of l set? -/
def B (l : List Int) (i : Nat) : Bool := (l.getD (i / 8) 0).toNat.testBit (i % 8)
theorem B_out {l : List Int} {i : Nat} (h : 8 * l.length ≤ i) : B l i = false := by
  unfold B
  rw [List.getD_eq_getElem?_getD, List.getElem?_eq_none (by omega)]
  exact Nat.zero_testBit _
/-- with one bit more -/
def setB (l : List Int) (i : Nat) : List Int := l.set (i / 8) (((l.getD (i / 8) 0).toNat ||| 2 ^ (i % 8) : Nat) : Int)
theorem or_fin : ∀ x : Fin 256, ∀ t : Fin 8, Go.bits .or .u8 (x.val : Int) (shl .u8 1 (t.val : Int)) = ((x.val ||| 2 ^ t.val : Nat) : Int) ∧ (x.val ||| 2 ^ t.val) < 256 := by decide +kernel
theorem or_eq {x : Int} (h : 0 ≤ x ∧ x ≤ 255) {t : Nat} (ht : t < 8) : Go.bits .or .u8 x (shl .u8 1 (t : Int)) = ((x.toNat ||| 2 ^ t : Nat) : Int) ∧ (x.toNat ||| 2 ^ t) < 256 := by
  have := or_fin ⟨x.toNat, by omega⟩ ⟨t, ht⟩
  simp only [Int.toNat_of_nonneg h.1] at this
  exact this
theorem setB_bytes {l : List Int} (hb : Bytes l) (i : Nat) : Bytes (setB l i) :=
  hb.set _ (by have := (or_eq (hb.at_ (i / 8)) (show i % 8 < 8 by omega)).2; omega)
theorem setB_length (l : List Int) (i : Nat) : (setB l i).length = l.length := List.length_set
theorem setB_out {l : List Int} {i : Nat} (h : 8 * l.length ≤ i) : setB l i = l := by
  unfold setB
  exact List.set_eq_of_length_le (by omega)
theorem B_set (l : List Int) (i j : Nat) : B (setB l i) j = (B l j || decide (i = j ∧ i < 8 * l.length)) := by
  by_cases h : i < 8 * l.length
  · unfold B setB
    rw [List.getD_eq_getElem?_getD, List.getD_eq_getElem?_getD, List.getD_eq_getElem?_getD]
    by_cases e : i / 8 = j / 8
    · rw [e, List.getElem?_set_self (by omega), Option.getD_some, Int.toNat_natCast, Nat.testBit_or, Nat.testBit_two_pow]
      congr 1
      exact decide_eq_decide.2 ⟨fun q => ⟨by omega, h⟩, fun q => by omega⟩
    · rw [List.getElem?_set_ne e, decide_eq_false (by omega), Bool.or_false]
  · rw [setB_out (by omega), decide_eq_false (by omega), Bool.or_false]
theorem make_nat {n : Nat} (h : n ≤ 65536) : bits_Make.f (n : Int) = some (List.replicate ((n + 7) / 8) 0) := by
  have e : mx 0 (mn (n : Int) 65536) = (n : Int) := by unfold mx mn; split <;> split <;> omega
  have e2 : word_Ceil.f (n : Int) 8 = some (((n + 7) / 8 : Nat) : Int) := by
    unfold word_Ceil.f
    rw [if_neg (by omega), if_neg (by omega), if_neg (by omega), if_neg (by omega), if_neg (by omega), w64 (x := (n : Int) + 8) (by omega) (by omega), w64 (x := (n : Int) + 8 - 1) (by omega) (by omega), tdivn (by omega), w64 (by omega) (by omega)]
    congr 1; omega
  unfold bits_Make.f
  rw [e, e2, Option.bind_some, if_pos (by omega), if_pos (by omega), Int.toNat_natCast]
theorem B_zeros (n i : Nat) : B (List.replicate n 0) i = false := by
  unfold B
  rw [List.getD_eq_getElem?_getD, List.getElem?_replicate]
  split <;> exact Nat.zero_testBit _
theorem clone_eq {l : List Int} (hl : l.length < 140737488355328) : bytes_Clone.f l = some l := by
  unfold bytes_Clone.f; rw [if_pos hl]
theorem set_eq {l : List Int} (hb : Bytes l) (hl : l.length < 140737488355328) {a : Int} (h1 : a ≤ 9223372036854775807) : bits_Set.f l a = some (if 0 ≤ a then setB l a.toNat else l) := by
  unfold bits_Set.f
  rw [clone_eq hl, Option.bind_some]
  by_cases h0 : a ≥ 0
  · obtain ⟨n, rfl⟩ : ∃ n : Nat, a = n := ⟨a.toNat, by omega⟩
    rw [if_pos h0, tdivn h0, tmodn h0, w64 (by omega) (by omega), if_pos (show (0 : Int) ≤ (n : Int) from h0), Int.toNat_natCast]
    by_cases hl : (n : Int) / 8 < (l.length : Int)
    · rw [if_pos hl, if_pos (by omega), if_pos (by omega)]
      have e : ((n : Int) / 8).toNat = n / 8 := by omega
      have e2 : (n : Int) % 8 = ((n % 8 : Nat) : Int) := by omega
      unfold rd setB
      rw [e, e2, (or_eq (hb.at_ _) (by omega)).1]
    · rw [if_neg hl, setB_out (by omega)]
  · rw [if_neg h0, if_neg (by omega)]
/-- two rows of as many bytes with the same bits are one -/
theorem B_ext {a b : List Int} (ha : Bytes a) (hb : Bytes b) (hl : a.length = b.length) (h : ∀ i, i < 8 * a.length → B a i = B b i) : a = b := by
  apply List.ext_getElem hl
  intro i h1 h2
  have x1 := ha _ (List.getElem_mem h1)
  have x2 := hb _ (List.getElem_mem h2)
  have e : a[i].toNat = b[i].toNat := by
    apply Nat.eq_of_testBit_eq
    intro t
    by_cases ht : t < 8
    · have := h (8 * i + t) (by omega)
      unfold B at this
      rw [show (8 * i + t) / 8 = i by omega, show (8 * i + t) % 8 = t by omega, List.getD_eq_getElem?_getD, List.getElem?_eq_getElem h1, List.getD_eq_getElem?_getD, List.getElem?_eq_getElem h2] at this
      exact this
    · rw [Nat.testBit_lt_two_pow (Nat.lt_of_lt_of_le (show a[i].toNat < 2 ^ 8 by omega) (Nat.pow_le_pow_right (by omega) (by omega))), Nat.testBit_lt_two_pow (Nat.lt_of_lt_of_le (show b[i].toNat < 2 ^ 8 by omega) (Nat.pow_le_pow_right (by omega) (by omega)))]
  omega
end Go.Proofs.Ytliohoalackhiaa.E
namespace Go.Proofs.Ytliohoalackhiaa.E
open Go.RowKit Go.Proofs.YtliohoalackhiaaW.PrintWords Go.Proofs.YtliohoalackhiaaW.PrintLast Go.Proofs.YtliohoalackhiaaW.PrintMore Go.Proofs.Ytliohoalackhiaa.Num
/-- of how many numbers below n p holds -/
def cb (p : Nat → Bool) : Nat → Nat
  | 0 => 0
  | n + 1 => cb p n + if p n then 1 else 0
theorem cb_le (p : Nat → Bool) (n : Nat) : cb p n ≤ n := by
  induction n with
  | zero => exact Nat.le_refl _
  | succ n ih => simp only [cb]; split <;> omega
theorem refget_loop (c t : Nat) (hc : c ≤ 255) (ht : t < 8) (a : Int) (ha : Int.tmod a 8 = (t : Int)) : ∀ (d k i : Nat), i + d = t → d < k → scullerref03_Get.l0 k a ((c / 2 ^ i : Nat) : Int) (i : Int) = some (c.testBit t) := by
  intro d
  induction d with
  | zero =>
    intro k i hi hk
    obtain ⟨k, rfl⟩ : ∃ j, k = j + 1 := ⟨k - 1, by omega⟩
    obtain rfl : i = t := by omega
    rw [Nat.testBit_eq_decide_div_mod_eq]
    generalize c / 2 ^ i = q
    rw [scullerref03_Get.l0, ha, if_neg (by omega), tmodn (by omega)]
    congr 1
    have e : ((q : Nat) : Int) % 2 = ((q % 2 : Nat) : Int) := by omega
    rw [e]
    by_cases h : q % 2 = 1
    · rw [h]; rfl
    · rw [show q % 2 = 0 by omega]; rfl
  | succ d ih =>
    intro k i hi hk
    obtain ⟨k, rfl⟩ : ∃ j, k = j + 1 := ⟨k - 1, by omega⟩
    have hle : c / 2 ^ i ≤ 255 := Nat.le_trans (Nat.div_le_self _ _) hc
    have hr := ih k (i + 1) (by omega) (by omega)
    rw [Nat.pow_succ, ← Nat.div_div_eq_div_mul] at hr
    generalize c / 2 ^ i = q at hle hr
    rw [scullerref03_Get.l0, ha, if_pos (by omega), tdivn (by omega), w64 (by omega) (by omega), w64 (by omega) (by omega)]
    exact hr
theorem refget_eq {l : List Int} (hb : Bytes l) {a : Int} (h1 : a ≤ 9223372036854775807) (k : Nat) (hk : 9 < k) : scullerref03_Get.f k l a = some (decide (0 ≤ a) && B l a.toNat) := by
  obtain ⟨k, rfl⟩ : ∃ j, k = j + 1 := ⟨k - 1, by omega⟩
  unfold scullerref03_Get.f
  by_cases h0 : a < 0
  · rw [if_pos h0, scullerref03_Get.j0, if_pos rfl, decide_eq_false (by omega)]; rfl
  · obtain ⟨n, rfl⟩ : ∃ n : Nat, a = n := ⟨a.toNat, by omega⟩
    rw [if_neg h0, tdivn (by omega), w64 (by omega) (by omega), decide_eq_true (show (0 : Int) ≤ (n : Int) by omega), Bool.true_and, Int.toNat_natCast, scullerref03_Get.j0]
    by_cases hl : (n : Int) / 8 ≥ (l.length : Int)
    · rw [if_pos (decide_eq_true hl), B_out (by omega)]
    · have hx := hb.at_ (n / 8)
      rw [if_neg (by simpa using hl), tdivn (by omega), w64 (by omega) (by omega), if_pos (by omega), if_pos (by omega)]
      have e : rd l ((n : Int) / 8) = ((l.getD (n / 8) 0).toNat : Int) := by unfold rd; rw [show ((n : Int) / 8).toNat = n / 8 by omega]; omega
      rw [e, w64 (by omega) (by omega)]
      have := refget_loop (l.getD (n / 8) 0).toNat (n % 8) (by omega) (by omega) (n : Int) (by rw [tmodn (by omega)]; omega) (n % 8) k 0 (by omega) (by omega)
      rw [Nat.pow_zero, Nat.div_one] at this
      exact this
theorem refget_nat {l : List Int} (hb : Bytes l) {i : Nat} (h1 : (i : Int) ≤ 9223372036854775807) (k : Nat) (hk : 9 < k) : scullerref03_Get.f k l (i : Int) = some (B l i) := by
  rw [refget_eq hb h1 k hk, decide_eq_true (by omega)]; simp
theorem refcount_loop {l : List Int} (hb : Bytes l) (hl : l.length < 100000) : ∀ (d k i : Nat), i + d = 8 * l.length → d + 10 < k → scullerref03_Count.l0 k l ((cb (B l) i : Nat) : Int) (i : Int) = some ((cb (B l) (8 * l.length) : Nat) : Int) := by
  intro d
  induction d with
  | zero =>
    intro k i hi hk
    obtain ⟨k, rfl⟩ : ∃ j, k = j + 1 := ⟨k - 1, by omega⟩
    obtain rfl : i = 8 * l.length := by omega
    rw [scullerref03_Count.l0, w64 (by omega) (by omega), if_neg (by omega)]
  | succ d ih =>
    intro k i hi hk
    obtain ⟨k, rfl⟩ : ∃ j, k = j + 1 := ⟨k - 1, by omega⟩
    have hc := cb_le (B l) i
    have := ih k (i + 1) (by omega) (by omega)
    simp only [cb] at this
    rw [scullerref03_Count.l0, w64 (x := 8 * (l.length : Int)) (by omega) (by omega), if_pos (by omega), refget_nat hb (by omega) k (by omega), Option.bind_some, w64 (x := (i : Int) + 1) (by omega) (by omega), w64 (x := ((cb (B l) i : Nat) : Int) + 1) (by omega) (by omega)]
    cases hB : B l i with
    | true => rw [if_pos rfl]; rw [hB] at this; exact this
    | false => rw [if_neg (by simp)]; rw [hB] at this; exact this
theorem refcount_eq {l : List Int} (hb : Bytes l) (hl : l.length < 100000) (k : Nat) (hk : 8 * l.length + 10 < k) : scullerref03_Count.f k l = some ((cb (B l) (8 * l.length) : Nat) : Int) :=
  refcount_loop hb hl (8 * l.length) k 0 (by omega) hk
theorem cb_none {p : Nat → Bool} {n : Nat} (h : ∀ i, i < n → p i = false) : cb p n = 0 := by
  induction n with
  | zero => rfl
  | succ n ih => simp only [cb]; rw [ih (fun i hi => h i (by omega)), h n (by omega)]; rfl
end Go.Proofs.Ytliohoalackhiaa.E
