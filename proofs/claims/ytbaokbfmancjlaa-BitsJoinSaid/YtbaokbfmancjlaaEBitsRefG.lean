/- What the document's Get and Set of bits compute. Conditions: those in each theorem. -/
import Derived.Test.YtbaokbfmancjlaaEx3
import Derived.Test.YtbaokbfmancjlaaEx3
import Derived.Test.YtbaokbfmancjlaaEBits
namespace Go.Proofs.Ytbaokbfmancjlaa.E
open Go.RowKit Go.Proofs.YtbaokbfmancjlaaW.PrintWords Go.Proofs.YtbaokbfmancjlaaW.PrintLast Go.Proofs.YtbaokbfmancjlaaW.PrintMore Go.Proofs.Ytbaokbfmancjlaa.Num

theorem refget_loop (c t : Nat) (hc : c ≤ 255) (ht : t < 8) (a : Int) (ha : Int.tmod a 8 = (t : Int)) : ∀ (d k i : Nat), i + d = t → d < k → scullerref03_Get.l0 k a ((c / 2 ^ i : Nat) : Int) (i : Int) = some (c.testBit t) := by
  intro d
  induction d with
  | zero =>
    intro k i hi hk
    obtain ⟨k, rfl⟩ : ∃ j, k = j + 1 := ⟨k - 1, by omega⟩
    obtain rfl : i = t := by omega
    rw [Nat.testBit_eq_decide_div_mod_eq]
    generalize c / 2 ^ i = q
    rw [scullerref03_Get.l0, ha, if_neg (by omega), tmodn (by omega)]
    congr 1
    have e : ((q : Nat) : Int) % 2 = ((q % 2 : Nat) : Int) := by omega
    rw [e]
    by_cases h : q % 2 = 1
    · rw [h]; rfl
    · rw [show q % 2 = 0 by omega]; rfl
  | succ d ih =>
    intro k i hi hk
    obtain ⟨k, rfl⟩ : ∃ j, k = j + 1 := ⟨k - 1, by omega⟩
    have hle : c / 2 ^ i ≤ 255 := Nat.le_trans (Nat.div_le_self _ _) hc
    have hr := ih k (i + 1) (by omega) (by omega)
    rw [Nat.pow_succ, ← Nat.div_div_eq_div_mul] at hr
    generalize c / 2 ^ i = q at hle hr
    rw [scullerref03_Get.l0, ha, if_pos (by omega), tdivn (by omega), w64 (by omega) (by omega), w64 (by omega) (by omega)]
    exact hr
theorem refget_eq {l : List Int} (hb : Bytes l) {a : Int} (h1 : a ≤ 9223372036854775807) (k : Nat) (hk : 9 < k) : scullerref03_Get.f k l a = some (decide (0 ≤ a) && B l a.toNat) := by
  obtain ⟨k, rfl⟩ : ∃ j, k = j + 1 := ⟨k - 1, by omega⟩
  unfold scullerref03_Get.f
  by_cases h0 : a < 0
  · rw [if_pos h0, scullerref03_Get.j0, if_pos rfl, decide_eq_false (by omega)]; rfl
  · obtain ⟨n, rfl⟩ : ∃ n : Nat, a = n := ⟨a.toNat, by omega⟩
    rw [if_neg h0, tdivn (by omega), w64 (by omega) (by omega), decide_eq_true (show (0 : Int) ≤ (n : Int) by omega), Bool.true_and, Int.toNat_natCast, scullerref03_Get.j0]
    by_cases hl : (n : Int) / 8 ≥ (l.length : Int)
    · rw [if_pos (decide_eq_true hl), B_out (by omega)]
    · have hx := hb.at_ (n / 8)
      rw [if_neg (by simpa using hl), tdivn (by omega), w64 (by omega) (by omega), if_pos (by omega), if_pos (by omega)]
      have e : rd l ((n : Int) / 8) = ((l.getD (n / 8) 0).toNat : Int) := by unfold rd; rw [show ((n : Int) / 8).toNat = n / 8 by omega]; omega
      rw [e, w64 (by omega) (by omega)]
      have := refget_loop (l.getD (n / 8) 0).toNat (n % 8) (by omega) (by omega) (n : Int) (by rw [tmodn (by omega)]; omega) (n % 8) k 0 (by omega) (by omega)
      rw [Nat.pow_zero, Nat.div_one] at this
      exact this
theorem refget_nat {l : List Int} (hb : Bytes l) {i : Nat} (h1 : (i : Int) ≤ 9223372036854775807) (k : Nat) (hk : 9 < k) : scullerref03_Get.f k l (i : Int) = some (B l i) := by
  rw [refget_eq hb h1 k hk, decide_eq_true (by omega)]; simp
theorem put_fin : ∀ x : Fin 256, ∀ t : Fin 8, x.val.testBit t.val = false → ((x.val : Int) + shl .u8 1 (t.val : Int)) % 256 = ((x.val ||| 2 ^ t.val : Nat) : Int) := by decide +kernel
theorem has_fin : ∀ x : Fin 256, ∀ t : Fin 8, x.val.testBit t.val = true → x.val ||| 2 ^ t.val = x.val := by decide +kernel
theorem setB_has {l : List Int} (hb : Bytes l) {i : Nat} (h : B l i = true) : setB l i = l := by
  have hx := hb.at_ (i / 8)
  have hl := B_lt h
  have := has_fin ⟨(l.getD (i / 8) 0).toNat, by omega⟩ ⟨i % 8, by omega⟩ h
  dsimp only at this
  unfold setB
  rw [this, Int.toNat_of_nonneg hx.1, List.getD_eq_getElem?_getD, List.getElem?_eq_getElem (show i / 8 < l.length by omega), Option.getD_some]
  exact List.set_getElem_self _
theorem refset_eq {l : List Int} (hb : Bytes l) (hl : l.length < 140737488355328) {a : Int} (h1 : a ≤ 9223372036854775807) (k : Nat) (hk : 9 < k) : scullerref03_Set.f k l a = some (if 0 ≤ a then setB l a.toNat else l) := by
  unfold scullerref03_Set.f
  rw [if_pos (by simpa using hl), Option.bind_some, List.nil_append]
  by_cases h0 : a ≥ 0
  · obtain ⟨n, rfl⟩ : ∃ n : Nat, a = n := ⟨a.toNat, by omega⟩
    rw [if_pos h0, tdivn h0, w64 (by omega) (by omega), if_pos (show (0 : Int) ≤ (n : Int) from h0), Int.toNat_natCast]
    by_cases hl : (n : Int) / 8 < (l.length : Int)
    · rw [if_pos hl, refget_nat hb h1 k hk, Option.bind_some]
      cases hB : B l n with
      | true => rw [if_pos rfl, setB_has hb hB]
      | false =>
        have hx := hb.at_ (n / 8)
        have e2 : Int.tmod (n : Int) 8 = ((n % 8 : Nat) : Int) := by rw [tmodn (by omega)]; omega
        rw [if_neg (by simp), if_pos (by omega), e2, u64id (by omega) (by omega), if_pos (by omega)]
        have := put_fin ⟨(l.getD (n / 8) 0).toNat, by omega⟩ ⟨n % 8, by omega⟩ hB
        simp only [Int.toNat_of_nonneg hx.1] at this
        unfold rd setB
        rw [show ((n : Int) / 8).toNat = n / 8 by omega, this, if_pos (by omega)]
    · rw [if_neg hl, setB_out (by omega)]
  · rw [if_neg h0, if_neg (by omega)]
theorem refset_nat {l : List Int} (hb : Bytes l) (hl : l.length < 140737488355328) {i : Nat} (h1 : (i : Int) ≤ 9223372036854775807) (k : Nat) (hk : 9 < k) : scullerref03_Set.f k l (i : Int) = some (setB l i) := by
  rw [refset_eq hb hl h1 k hk, if_pos (by omega), Int.toNat_natCast]
end Go.Proofs.Ytbaokbfmancjlaa.E
