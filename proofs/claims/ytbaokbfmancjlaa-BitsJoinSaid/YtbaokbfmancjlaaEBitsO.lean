/- What bits.Or and bits.Within compute, by the bits that are set. Conditions: those in each theorem. -/
import Derived.Test.YtbaokbfmancjlaaEgOr
import Derived.Test.YtbaokbfmancjlaaEBits
import Derived.Laws.BitsAllLaws
namespace Go.Proofs.Ytbaokbfmancjlaa.E
open Go.RowKit Go.Proofs.YtbaokbfmancjlaaW.PrintWords Go.Proofs.YtbaokbfmancjlaaW.PrintLast Go.Proofs.YtbaokbfmancjlaaW.PrintMore Go.Proofs.Ytbaokbfmancjlaa.Num
set_option linter.unusedVariables false

theorem str_eq {a b : List Int} (ha : Bytes a) (hb : Bytes b) : ((strOfNums a).toList == (strOfNums b).toList) = decide (a = b) := by
  by_cases h : a = b
  · subst h; simp
  · rw [decide_eq_false h]
    apply beq_eq_false_iff_ne.2
    intro he
    apply h
    have hd := he
    rw [ByteArray.toList_eq, ByteArray.toList_eq, strOfNums_data, strOfNums_data] at hd
    have e : ∀ l : List Int, Bytes l → (l.map fun n => UInt8.ofNat n.toNat).map (fun c => (c.toNat : Int)) = l := by
      intro l hl
      rw [List.map_map]
      conv => rhs; rw [← List.map_id l]
      apply List.map_congr_left
      intro x hx
      have := hl x hx
      simp only [Function.comp, id]
      show ((x.toNat % 256 : Nat) : Int) = x
      omega
    rw [← e a ha, ← e b hb, hd]

/-- rows as long with the same bits are the same -/
theorem B_ext {a b : List Int} (ha : Bytes a) (hb : Bytes b) (hl : a.length = b.length) (h : ∀ i, B a i = B b i) : a = b := by
  apply List.ext_getElem? 
  intro j
  by_cases hj : j < a.length
  · have x := ha.at_ j; have y := hb.at_ j
    have e : (a.getD j 0).toNat = (b.getD j 0).toNat := by
      apply Nat.eq_of_testBit_eq
      intro t
      by_cases ht : t < 8
      · have := h (8 * j + t)
        unfold B at this
        rw [show (8 * j + t) / 8 = j by omega, show (8 * j + t) % 8 = t by omega] at this
        exact this
      · have p : 2 ^ 8 ≤ 2 ^ t := Nat.pow_le_pow_right (by omega) (by omega)
        rw [Nat.testBit_lt_two_pow (Nat.lt_of_lt_of_le (show (a.getD j 0).toNat < 2 ^ 8 by omega) p), Nat.testBit_lt_two_pow (Nat.lt_of_lt_of_le (show (b.getD j 0).toNat < 2 ^ 8 by omega) p)]
    have e2 : a.getD j 0 = b.getD j 0 := by omega
    rw [List.getD_eq_getElem?_getD, List.getD_eq_getElem?_getD, List.getElem?_eq_getElem hj, List.getElem?_eq_getElem (show j < b.length by omega)] at e2
    rw [List.getElem?_eq_getElem hj, List.getElem?_eq_getElem (show j < b.length by omega)]
    exact congrArg some e2
  · rw [List.getElem?_eq_none (by omega), List.getElem?_eq_none (by omega)]
theorem clone_same {l : List Int} (hl : l.length < 140737488355328) : bytes_Clone.f l = some l := by
  unfold bytes_Clone.f; rw [if_pos hl]
theorem orbyte {x y : Int} (hx : 0 ≤ x ∧ x ≤ 255) (hy : 0 ≤ y ∧ y ≤ 255) : Go.bits .or .u8 x y = ((x.toNat ||| y.toNat : Nat) : Int) ∧ (x.toNat ||| y.toNat) < 256 := by
  have := u8_or_nat x.toNat y.toNat (by omega) (by omega)
  rw [Int.toNat_of_nonneg hx.1, Int.toNat_of_nonneg hy.1] at this
  exact ⟨this, Nat.or_lt_two_pow (n := 8) (by omega) (by omega)⟩
theorem or_loop {y : List Int} (hy : Bytes y) (hyl : y.length < 140737488355328) : ∀ (d k i : Nat) (x : List Int), i + d = y.length → d < k → y.length ≤ x.length → Bytes x →
    ∃ r, bits_Or.l0 k x y (y.length : Int) (i : Int) = some r ∧ Bytes r ∧ r.length = x.length ∧ ∀ j, B r j = (B x j || (decide (8 * i ≤ j) && B y j)) := by
  intro d
  induction d with
  | zero =>
    intro k i x hi hk hl hx
    obtain ⟨k, rfl⟩ : ∃ j, k = j + 1 := ⟨k - 1, by omega⟩
    rw [bits_Or.l0, if_neg (by omega)]
    refine ⟨_, rfl, hx, rfl, fun j => ?_⟩
    by_cases h : 8 * i ≤ j
    · rw [B_out (l := y) (by omega)]; simp
    · rw [decide_eq_false h]; simp
  | succ d ih =>
    intro k i x hi hk hl hx
    obtain ⟨k, rfl⟩ : ∃ j, k = j + 1 := ⟨k - 1, by omega⟩
    have hb := orbyte (hx.at_ i) (hy.at_ i)
    rw [bits_Or.l0, if_pos (by omega), if_pos (by omega), if_pos (by omega), if_pos (by omega), w64 (by omega) (by omega), Int.toNat_natCast]
    have e : Go.bits .or .u8 (rd x (i : Int)) (rd y (i : Int)) = (((x.getD i 0).toNat ||| (y.getD i 0).toNat : Nat) : Int) := hb.1
    rw [e]
    obtain ⟨r, h1, h2, h3, h4⟩ := ih k (i + 1) (x.set i (((x.getD i 0).toNat ||| (y.getD i 0).toNat : Nat) : Int)) (by omega) (by omega) (by rw [List.length_set]; exact hl) (hx.set _ (by have := hb.2; omega))
    refine ⟨r, h1, h2, by rw [h3, List.length_set], fun j => ?_⟩
    rw [h4]
    unfold B
    rw [List.getD_eq_getElem?_getD (l := x.set _ _)]
    by_cases e : i = j / 8
    · subst e
      rw [List.getElem?_set_self (by omega), Option.getD_some, Int.toNat_natCast, Nat.testBit_or, decide_eq_false (show ¬ 8 * (j / 8 + 1) ≤ j by omega), decide_eq_true (show 8 * (j / 8) ≤ j by omega)]
      simp
    · rw [List.getElem?_set_ne e, ← List.getD_eq_getElem?_getD]
      congr 2
      exact decide_eq_decide.2 ⟨fun q => by omega, fun q => by omega⟩
theorem or_spec {a b : List Int} (ha : Bytes a) (hb : Bytes b) (hal : a.length < 140737488355328) (hbl : b.length < 140737488355328) (k : Nat) (hk : a.length + b.length < k) :
    ∃ r, bits_Or.f k a b = some r ∧ Bytes r ∧ r.length = max a.length b.length ∧ ∀ j, B r j = (B a j || B b j) := by
  unfold bits_Or.f
  by_cases h : (a.length : Int) < (b.length : Int)
  · rw [if_pos h, clone_same hbl, Option.bind_some]
    obtain ⟨r, h1, h2, h3, h4⟩ := or_loop ha hal a.length k 0 b (by omega) (by omega) (by omega) hb
    refine ⟨r, h1, h2, by omega, fun j => ?_⟩
    rw [h4, decide_eq_true (by omega), Bool.true_and, Bool.or_comm]
  · rw [if_neg h, clone_same hal, Option.bind_some]
    obtain ⟨r, h1, h2, h3, h4⟩ := or_loop hb hbl b.length k 0 a (by omega) (by omega) (by omega) ha
    refine ⟨r, h1, h2, by omega, fun j => ?_⟩
    rw [h4, decide_eq_true (by omega), Bool.true_and]
end Go.Proofs.Ytbaokbfmancjlaa.E
