/- The bits of a row of bytes, told by 'B l i' (is bit i of l set?); what bits.Make computes. Conditions: those in each theorem. -/
/- More of the bits of a row of bytes: what bits.Set computes; rows with the same bits are one. Conditions: those in each theorem. -/
/- What bits.Right tells, by the bits that are set. Conditions: those in each theorem. -/
/- What the document's Get and Set of bits compute. Conditions: those in each theorem. -/
/- What the document's Ceil by eight and Make of bits compute. Conditions: those in each theorem. -/
import Derived.Test.YtliohoalackhiaaPTx1
import Derived.Test.YtliohoalackhiaaPTTBase
import Derived.Test.YtliohoalackhiaaPTgClone
import Derived.Laws.BitsAllLaws
import Derived.Test.YtliohoalackhiaaPTx13
import Derived.Test.YtliohoalackhiaaPTx2
import Derived.Test.YtliohoalackhiaaPTx3
namespace Go.Proofs.Ytliohoalackhiaa.T
open Go.RowKit Go.Proofs.YtliohoalackhiaaW.PrintWords Go.Proofs.YtliohoalackhiaaW.PrintLast Go.Proofs.YtliohoalackhiaaW.PrintMore Go.Proofs.Ytliohoalackhiaa.Num
theorem Bytes.at_ {l : List Int} (h : Bytes l) (j : Nat) : 0 ≤ l.getD j 0 ∧ l.getD j 0 ≤ 255 := by
  by_cases hj : j < l.length
  · rw [List.getD_eq_getElem?_getD, List.getElem?_eq_getElem hj]; exact h _ (List.getElem_mem hj)
  · rw [List.getD_eq_getElem?_getD, List.getElem?_eq_none (by omega)]; simp
theorem Bytes.set {l : List Int} (h : Bytes l) (j : Nat) {v : Int} (hv : 0 ≤ v ∧ v ≤ 255) : Bytes (l.set j v) := fun x hx => by
  rcases List.mem_or_eq_of_mem_set hx with hx | rfl
  · exact h x hx
  · exact hv
theorem Bytes.zeros (n : Nat) : Bytes (List.replicate n 0) := fun x hx => by rw [List.eq_of_mem_replicate hx]; omega
def B (l : List Int) (i : Nat) : Bool := (l.getD (i / 8) 0).toNat.testBit (i % 8)
theorem B_out {l : List Int} {i : Nat} (h : 8 * l.length ≤ i) : B l i = false := by
  unfold B
  rw [List.getD_eq_getElem?_getD, List.getElem?_eq_none (by omega)]
  exact Nat.zero_testBit _
theorem B_lt {l : List Int} {i : Nat} (h : B l i = true) : i < 8 * l.length := by
  rcases Nat.lt_or_ge i (8 * l.length) with h1 | h1
  · exact h1
  · rw [B_out h1] at h; cases h
def setB (l : List Int) (i : Nat) : List Int := l.set (i / 8) (((l.getD (i / 8) 0).toNat ||| 2 ^ (i % 8) : Nat) : Int)
theorem or_fin : ∀ x : Fin 256, ∀ t : Fin 8, Go.bits .or .u8 (x.val : Int) (shl .u8 1 (t.val : Int)) = ((x.val ||| 2 ^ t.val : Nat) : Int) ∧ (x.val ||| 2 ^ t.val) < 256 := by decide +kernel
theorem or_eq {x : Int} (h : 0 ≤ x ∧ x ≤ 255) {t : Nat} (ht : t < 8) : Go.bits .or .u8 x (shl .u8 1 (t : Int)) = ((x.toNat ||| 2 ^ t : Nat) : Int) ∧ (x.toNat ||| 2 ^ t) < 256 := by
  have := or_fin ⟨x.toNat, by omega⟩ ⟨t, ht⟩
  simp only [Int.toNat_of_nonneg h.1] at this
  exact this
theorem setB_bytes {l : List Int} (hb : Bytes l) (i : Nat) : Bytes (setB l i) :=
  hb.set _ (by have := (or_eq (hb.at_ (i / 8)) (show i % 8 < 8 by omega)).2; omega)
theorem setB_length (l : List Int) (i : Nat) : (setB l i).length = l.length := List.length_set
theorem setB_out {l : List Int} {i : Nat} (h : 8 * l.length ≤ i) : setB l i = l := by
  unfold setB
  exact List.set_eq_of_length_le (by omega)
theorem B_set (l : List Int) (i j : Nat) : B (setB l i) j = (B l j || decide (i = j ∧ i < 8 * l.length)) := by
  by_cases h : i < 8 * l.length
  · unfold B setB
    rw [List.getD_eq_getElem?_getD, List.getD_eq_getElem?_getD, List.getD_eq_getElem?_getD]
    by_cases e : i / 8 = j / 8
    · rw [e, List.getElem?_set_self (by omega), Option.getD_some, Int.toNat_natCast, Nat.testBit_or, Nat.testBit_two_pow]
      congr 1
      exact decide_eq_decide.2 ⟨fun q => ⟨by omega, h⟩, fun q => by omega⟩
    · rw [List.getElem?_set_ne e, decide_eq_false (by omega), Bool.or_false]
  · rw [setB_out (by omega), decide_eq_false (by omega), Bool.or_false]
theorem make_nat {n : Nat} (h : n ≤ 65536) : bits_Make.f (n : Int) = some (List.replicate ((n + 7) / 8) 0) := by
  have e : mx 0 (mn (n : Int) 65536) = (n : Int) := by unfold mx mn; split <;> split <;> omega
  have e2 : word_Ceil.f (n : Int) 8 = some (((n + 7) / 8 : Nat) : Int) := by
    unfold word_Ceil.f
    rw [if_neg (by omega), if_neg (by omega), if_neg (by omega), if_neg (by omega), if_neg (by omega), w64 (x := (n : Int) + 8) (by omega) (by omega), w64 (x := (n : Int) + 8 - 1) (by omega) (by omega), tdivn (by omega), w64 (by omega) (by omega)]
    congr 1; omega
  unfold bits_Make.f
  rw [e, e2, Option.bind_some, if_pos (by omega), if_pos (by omega), Int.toNat_natCast]
theorem B_zeros (n i : Nat) : B (List.replicate n 0) i = false := by
  unfold B
  rw [List.getD_eq_getElem?_getD, List.getElem?_replicate]
  split <;> exact Nat.zero_testBit _
end Go.Proofs.Ytliohoalackhiaa.T
namespace Go.Proofs.Ytliohoalackhiaa.T
open Go.RowKit Go.Proofs.YtliohoalackhiaaW.PrintWords Go.Proofs.YtliohoalackhiaaW.PrintLast Go.Proofs.YtliohoalackhiaaW.PrintMore Go.Proofs.Ytliohoalackhiaa.Num
theorem clone_eq {l : List Int} (hl : l.length < 140737488355328) : bytes_Clone.f l = some l := by
  unfold bytes_Clone.f; rw [if_pos hl]
theorem set_eq {l : List Int} (hb : Bytes l) (hl : l.length < 140737488355328) {a : Int} (h1 : a ≤ 9223372036854775807) : bits_Set.f l a = some (if 0 ≤ a then setB l a.toNat else l) := by
  unfold bits_Set.f
  rw [clone_eq hl, Option.bind_some]
  by_cases h0 : a ≥ 0
  · obtain ⟨n, rfl⟩ : ∃ n : Nat, a = n := ⟨a.toNat, by omega⟩
    rw [if_pos h0, tdivn h0, tmodn h0, w64 (by omega) (by omega), if_pos (show (0 : Int) ≤ (n : Int) from h0), Int.toNat_natCast]
    by_cases hl : (n : Int) / 8 < (l.length : Int)
    · rw [if_pos hl, if_pos (by omega), if_pos (by omega)]
      have e : ((n : Int) / 8).toNat = n / 8 := by omega
      have e2 : (n : Int) % 8 = ((n % 8 : Nat) : Int) := by omega
      unfold rd setB
      rw [e, e2, (or_eq (hb.at_ _) (by omega)).1]
    · rw [if_neg hl, setB_out (by omega)]
  · rw [if_neg h0, if_neg (by omega)]
theorem B_ext {a b : List Int} (ha : Bytes a) (hb : Bytes b) (hl : a.length = b.length) (h : ∀ i, i < 8 * a.length → B a i = B b i) : a = b := by
  apply List.ext_getElem hl
  intro i h1 h2
  have x1 := ha _ (List.getElem_mem h1)
  have x2 := hb _ (List.getElem_mem h2)
  have e : a[i].toNat = b[i].toNat := by
    apply Nat.eq_of_testBit_eq
    intro t
    by_cases ht : t < 8
    · have := h (8 * i + t) (by omega)
      unfold B at this
      rw [show (8 * i + t) / 8 = i by omega, show (8 * i + t) % 8 = t by omega, List.getD_eq_getElem?_getD, List.getElem?_eq_getElem h1, List.getD_eq_getElem?_getD, List.getElem?_eq_getElem h2] at this
      exact this
    · rw [Nat.testBit_lt_two_pow (Nat.lt_of_lt_of_le (show a[i].toNat < 2 ^ 8 by omega) (Nat.pow_le_pow_right (by omega) (by omega))), Nat.testBit_lt_two_pow (Nat.lt_of_lt_of_le (show b[i].toNat < 2 ^ 8 by omega) (Nat.pow_le_pow_right (by omega) (by omega)))]
  omega
end Go.Proofs.Ytliohoalackhiaa.T
namespace Go.Proofs.Ytliohoalackhiaa.T
open Go.RowKit Go.Proofs.YtliohoalackhiaaW.PrintWords Go.Proofs.YtliohoalackhiaaW.PrintLast Go.Proofs.YtliohoalackhiaaW.PrintMore Go.Proofs.Ytliohoalackhiaa.Num
theorem high_fin : ∀ x : Fin 256, ∀ t : Fin 8, (shr .u8 (x.val : Int) (t.val : Int) == 0) = ((List.range 8).all fun i => decide (i < t.val) || !x.val.testBit i) := by decide +kernel
theorem high_eq {x : Int} (h : 0 ≤ x ∧ x ≤ 255) {t : Nat} (ht : t < 8) : (shr .u8 x (t : Int) == 0) = ((List.range 8).all fun i => decide (i < t) || !x.toNat.testBit i) := by
  have := high_fin ⟨x.toNat, by omega⟩ ⟨t, ht⟩
  simp only [Int.toNat_of_nonneg h.1] at this
  exact this
theorem right_nat {l : List Int} (hb : Bytes l) (hl : l.length < 140737488355328) {n : Nat} (hn : n ≤ 65536) : ∃ r, bits_Right.f l (n : Int) = some r ∧ (r = true ↔ l.length = (n + 7) / 8 ∧ ∀ i, n ≤ i → B l i = false) := by
  unfold bits_Right.f
  rw [if_neg (by omega), if_neg (by omega), make_nat hn, Option.bind_some, List.length_replicate, tmodn (by omega)]
  by_cases h : (l.length : Int) = (((n + 7) / 8 : Nat) : Int)
  · rw [if_pos h]
    by_cases h8 : (n : Int) % 8 = 0
    · rw [if_pos h8]
      exact ⟨_, rfl, ⟨fun _ => ⟨by omega, fun i hi => B_out (by omega)⟩, fun _ => rfl⟩⟩
    · rw [if_neg h8, w64 (by omega) (by omega), if_pos (by omega), if_pos (by omega), if_pos (by omega)]
      refine ⟨_, rfl, ?_⟩
      unfold rd
      rw [show ((l.length : Int) - 1).toNat = n / 8 by omega, show (n : Int) % 8 = ((n % 8 : Nat) : Int) by omega, high_eq (hb.at_ _) (by omega), List.all_eq_true]
      constructor
      · intro h1
        refine ⟨by omega, fun i hi => ?_⟩
        by_cases hi2 : i < 8 * l.length
        · have := h1 (i % 8) (List.mem_range.2 (by omega))
          unfold B
          rw [show i / 8 = n / 8 by omega]
          simpa [show ¬ i % 8 < n % 8 by omega] using this
        · exact B_out (by omega)
      · rintro ⟨_, h1⟩ i hi
        have hi := List.mem_range.1 hi
        by_cases hin : i < n % 8
        · simp [hin]
        · have := h1 (8 * (n / 8) + i) (by omega)
          unfold B at this
          rw [show (8 * (n / 8) + i) / 8 = n / 8 by omega, show (8 * (n / 8) + i) % 8 = i by omega] at this
          simpa [hin] using this
  · rw [if_neg h]
    exact ⟨_, rfl, ⟨fun h1 => (by cases h1), fun h1 => absurd h1.1 (by omega)⟩⟩
end Go.Proofs.Ytliohoalackhiaa.T
namespace Go.Proofs.Ytliohoalackhiaa.T
open Go.RowKit Go.Proofs.YtliohoalackhiaaW.PrintWords Go.Proofs.YtliohoalackhiaaW.PrintLast Go.Proofs.YtliohoalackhiaaW.PrintMore Go.Proofs.Ytliohoalackhiaa.Num
theorem refget_loop (c t : Nat) (hc : c ≤ 255) (ht : t < 8) (a : Int) (ha : Int.tmod a 8 = (t : Int)) : ∀ (d k i : Nat), i + d = t → d < k → scullerref03_Get.l0 k a ((c / 2 ^ i : Nat) : Int) (i : Int) = some (c.testBit t) := by
  intro d
  induction d with
  | zero =>
    intro k i hi hk
    obtain ⟨k, rfl⟩ : ∃ j, k = j + 1 := ⟨k - 1, by omega⟩
    obtain rfl : i = t := by omega
    rw [Nat.testBit_eq_decide_div_mod_eq]
    generalize c / 2 ^ i = q
    rw [scullerref03_Get.l0, ha, if_neg (by omega), tmodn (by omega)]
    congr 1
    have e : ((q : Nat) : Int) % 2 = ((q % 2 : Nat) : Int) := by omega
    rw [e]
    by_cases h : q % 2 = 1
    · rw [h]; rfl
    · rw [show q % 2 = 0 by omega]; rfl
  | succ d ih =>
    intro k i hi hk
    obtain ⟨k, rfl⟩ : ∃ j, k = j + 1 := ⟨k - 1, by omega⟩
    have hle : c / 2 ^ i ≤ 255 := Nat.le_trans (Nat.div_le_self _ _) hc
    have hr := ih k (i + 1) (by omega) (by omega)
    rw [Nat.pow_succ, ← Nat.div_div_eq_div_mul] at hr
    generalize c / 2 ^ i = q at hle hr
    rw [scullerref03_Get.l0, ha, if_pos (by omega), tdivn (by omega), w64 (by omega) (by omega), w64 (by omega) (by omega)]
    exact hr
theorem refget_eq {l : List Int} (hb : Bytes l) {a : Int} (h1 : a ≤ 9223372036854775807) (k : Nat) (hk : 9 < k) : scullerref03_Get.f k l a = some (decide (0 ≤ a) && B l a.toNat) := by
  obtain ⟨k, rfl⟩ : ∃ j, k = j + 1 := ⟨k - 1, by omega⟩
  unfold scullerref03_Get.f
  by_cases h0 : a < 0
  · rw [if_pos h0, scullerref03_Get.j0, if_pos rfl, decide_eq_false (by omega)]; rfl
  · obtain ⟨n, rfl⟩ : ∃ n : Nat, a = n := ⟨a.toNat, by omega⟩
    rw [if_neg h0, tdivn (by omega), w64 (by omega) (by omega), decide_eq_true (show (0 : Int) ≤ (n : Int) by omega), Bool.true_and, Int.toNat_natCast, scullerref03_Get.j0]
    by_cases hl : (n : Int) / 8 ≥ (l.length : Int)
    · rw [if_pos (decide_eq_true hl), B_out (by omega)]
    · have hx := hb.at_ (n / 8)
      rw [if_neg (by simpa using hl), tdivn (by omega), w64 (by omega) (by omega), if_pos (by omega), if_pos (by omega)]
      have e : rd l ((n : Int) / 8) = ((l.getD (n / 8) 0).toNat : Int) := by unfold rd; rw [show ((n : Int) / 8).toNat = n / 8 by omega]; omega
      rw [e, w64 (by omega) (by omega)]
      have := refget_loop (l.getD (n / 8) 0).toNat (n % 8) (by omega) (by omega) (n : Int) (by rw [tmodn (by omega)]; omega) (n % 8) k 0 (by omega) (by omega)
      rw [Nat.pow_zero, Nat.div_one] at this
      exact this
theorem refget_nat {l : List Int} (hb : Bytes l) {i : Nat} (h1 : (i : Int) ≤ 9223372036854775807) (k : Nat) (hk : 9 < k) : scullerref03_Get.f k l (i : Int) = some (B l i) := by
  rw [refget_eq hb h1 k hk, decide_eq_true (by omega)]; simp
theorem put_fin : ∀ x : Fin 256, ∀ t : Fin 8, x.val.testBit t.val = false → ((x.val : Int) + shl .u8 1 (t.val : Int)) % 256 = ((x.val ||| 2 ^ t.val : Nat) : Int) := by decide +kernel
theorem has_fin : ∀ x : Fin 256, ∀ t : Fin 8, x.val.testBit t.val = true → x.val ||| 2 ^ t.val = x.val := by decide +kernel
theorem setB_has {l : List Int} (hb : Bytes l) {i : Nat} (h : B l i = true) : setB l i = l := by
  have hx := hb.at_ (i / 8)
  have hl := B_lt h
  have := has_fin ⟨(l.getD (i / 8) 0).toNat, by omega⟩ ⟨i % 8, by omega⟩ h
  dsimp only at this
  unfold setB
  rw [this, Int.toNat_of_nonneg hx.1, List.getD_eq_getElem?_getD, List.getElem?_eq_getElem (show i / 8 < l.length by omega), Option.getD_some]
  exact List.set_getElem_self _
theorem refset_eq {l : List Int} (hb : Bytes l) (hl : l.length < 140737488355328) {a : Int} (h1 : a ≤ 9223372036854775807) (k : Nat) (hk : 9 < k) : scullerref03_Set.f k l a = some (if 0 ≤ a then setB l a.toNat else l) := by
  unfold scullerref03_Set.f
  rw [if_pos (by simpa using hl), Option.bind_some, List.nil_append]
  by_cases h0 : a ≥ 0
  · obtain ⟨n, rfl⟩ : ∃ n : Nat, a = n := ⟨a.toNat, by omega⟩
    rw [if_pos h0, tdivn h0, w64 (by omega) (by omega), if_pos (show (0 : Int) ≤ (n : Int) from h0), Int.toNat_natCast]
    by_cases hl : (n : Int) / 8 < (l.length : Int)
    · rw [if_pos hl, refget_nat hb h1 k hk, Option.bind_some]
      cases hB : B l n with
      | true => rw [if_pos rfl, setB_has hb hB]
      | false =>
        have hx := hb.at_ (n / 8)
        have e2 : Int.tmod (n : Int) 8 = ((n % 8 : Nat) : Int) := by rw [tmodn (by omega)]; omega
        rw [if_neg (by simp), if_pos (by omega), e2, u64id (by omega) (by omega), if_pos (by omega)]
        have := put_fin ⟨(l.getD (n / 8) 0).toNat, by omega⟩ ⟨n % 8, by omega⟩ hB
        simp only [Int.toNat_of_nonneg hx.1] at this
        unfold rd setB
        rw [show ((n : Int) / 8).toNat = n / 8 by omega, this, if_pos (by omega)]
    · rw [if_neg hl, setB_out (by omega)]
  · rw [if_neg h0, if_neg (by omega)]
theorem refset_nat {l : List Int} (hb : Bytes l) (hl : l.length < 140737488355328) {i : Nat} (h1 : (i : Int) ≤ 9223372036854775807) (k : Nat) (hk : 9 < k) : scullerref03_Set.f k l (i : Int) = some (setB l i) := by
  rw [refset_eq hb hl h1 k hk, if_pos (by omega), Int.toNat_natCast]
end Go.Proofs.Ytliohoalackhiaa.T
namespace Go.Proofs.Ytliohoalackhiaa.T
open Go.RowKit Go.Proofs.YtliohoalackhiaaW.PrintWords Go.Proofs.YtliohoalackhiaaW.PrintLast Go.Proofs.YtliohoalackhiaaW.PrintMore Go.Proofs.Ytliohoalackhiaa.Num
set_option linter.unusedVariables false
theorem clamp_any (a : Int) : ∃ n : Nat, n ≤ 65536 ∧ mx 0 (mn a 65536) = (n : Int) := by
  refine ⟨(mx 0 (mn a 65536)).toNat, ?_, ?_⟩ <;> (unfold mx mn; repeat' split) <;> omega
theorem clamp_self {n : Nat} (h : n ≤ 65536) : mx 0 (mn (n : Int) 65536) = (n : Int) := by unfold mx mn; repeat' split <;> omega
theorem refceil8 {n : Nat} (h : n ≤ 65536) (k : Nat) (hk : 0 < k) : scullerref01_Ceil.f k (n : Int) 8 = some (((n + 7) / 8 : Nat) : Int) := by
  obtain ⟨k, rfl⟩ : ∃ j, k = j + 1 := ⟨k - 1, by omega⟩
  unfold scullerref01_Ceil.f
  rw [if_neg (by omega), if_neg (by omega), if_neg (by omega), scullerref01_Ceil.j0, if_neg (by simp), if_neg (by omega), tdivn (by omega), w64 (x := (n : Int) / 8) (by omega) (by omega), w64 (x := (n : Int) / 8 * 8) (by omega) (by omega), w64 (x := (n : Int) / 8 + 1) (by omega) (by omega)]
  split <;> (congr 1; omega)
theorem make_any (a : Int) : ∃ n : Nat, n ≤ 65536 ∧ mx 0 (mn a 65536) = (n : Int) ∧ bits_Make.f a = some (List.replicate ((n + 7) / 8) 0) ∧ ∀ k, 0 < k → scullerref03_Make.f k a = some (List.replicate ((n + 7) / 8) 0) := by
  obtain ⟨n, hn, e⟩ := clamp_any a
  refine ⟨n, hn, e, ?_, fun k hk => ?_⟩
  · have := make_nat hn
    unfold bits_Make.f at this ⊢
    rw [clamp_self hn] at this
    rw [e]; exact this
  · unfold scullerref03_Make.f
    rw [e, refceil8 hn k hk, Option.bind_some, if_pos (by omega), if_pos (by omega), Int.toNat_natCast]
end Go.Proofs.Ytliohoalackhiaa.T
