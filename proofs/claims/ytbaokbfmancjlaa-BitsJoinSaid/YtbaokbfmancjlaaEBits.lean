/- The bits of a row of bytes: what Get, Set, First of bits compute, told by 'B l i' (is bit i of l set?). Conditions: those in each theorem. -/
import Derived.Test.YtbaokbfmancjlaaEx1
import Derived.Test.YtbaokbfmancjlaaEx2
import Derived.Test.YtbaokbfmancjlaaEgFirst
import Derived.Test.YtbaokbfmancjlaaNum
namespace Go.Proofs.Ytbaokbfmancjlaa.E
open Go.RowKit Go.Proofs.YtbaokbfmancjlaaW.PrintWords Go.Proofs.YtbaokbfmancjlaaW.PrintLast Go.Proofs.YtbaokbfmancjlaaW.PrintMore Go.Proofs.Ytbaokbfmancjlaa.Num

def Bytes (l : List Int) : Prop := ∀ x ∈ l, 0 ≤ x ∧ x ≤ 255
theorem Bytes.of_wf {l : List Int} (h : ∀ x ∈ l, (Lit.int .u8 x).wf = true) : Bytes l := fun x hx => bounds_u8 (h x hx)
theorem Bytes.at_ {l : List Int} (h : Bytes l) (j : Nat) : 0 ≤ l.getD j 0 ∧ l.getD j 0 ≤ 255 := by
  by_cases hj : j < l.length
  · rw [List.getD_eq_getElem?_getD, List.getElem?_eq_getElem hj]; exact h _ (List.getElem_mem hj)
  · rw [List.getD_eq_getElem?_getD, List.getElem?_eq_none (by omega)]; simp
theorem Bytes.set {l : List Int} (h : Bytes l) (j : Nat) {v : Int} (hv : 0 ≤ v ∧ v ≤ 255) : Bytes (l.set j v) := fun x hx => by
  rcases List.mem_or_eq_of_mem_set hx with hx | rfl
  · exact h x hx
  · exact hv
theorem Bytes.zeros (n : Nat) : Bytes (List.replicate n 0) := fun x hx => by rw [List.eq_of_mem_replicate hx]; omega
/-- Is bit i of l set? -/
def B (l : List Int) (i : Nat) : Bool := (l.getD (i / 8) 0).toNat.testBit (i % 8)
theorem B_out {l : List Int} {i : Nat} (h : 8 * l.length ≤ i) : B l i = false := by
  unfold B
  rw [List.getD_eq_getElem?_getD, List.getElem?_eq_none (by omega)]
  exact Nat.zero_testBit _
theorem B_lt {l : List Int} {i : Nat} (h : B l i = true) : i < 8 * l.length := by
  rcases Nat.lt_or_ge i (8 * l.length) with h1 | h1
  · exact h1
  · rw [B_out h1] at h; cases h
theorem bit_fin : ∀ x : Fin 256, ∀ t : Fin 8, (Go.bits .and .u8 (shr .u8 (x.val : Int) (t.val : Int)) 1 == 1) = x.val.testBit t.val := by decide +kernel
theorem bit_eq {x : Int} (h : 0 ≤ x ∧ x ≤ 255) {t : Nat} (ht : t < 8) : (Go.bits .and .u8 (shr .u8 x (t : Int)) 1 == 1) = x.toNat.testBit t := by
  have := bit_fin ⟨x.toNat, by omega⟩ ⟨t, ht⟩
  simp only [Int.toNat_of_nonneg h.1] at this
  exact this
theorem get_eq {l : List Int} (hb : Bytes l) {a : Int} (h1 : a ≤ 9223372036854775807) : bits_Get.f l a = some (decide (0 ≤ a) && B l a.toNat) := by
  unfold bits_Get.f
  by_cases h0 : a ≥ 0
  · obtain ⟨n, rfl⟩ : ∃ n : Nat, a = n := ⟨a.toNat, by omega⟩
    rw [if_pos h0, tdivn h0, tmodn h0, w64 (by omega) (by omega), decide_eq_true (show (0 : Int) ≤ (n : Int) from h0), Bool.true_and, Int.toNat_natCast]
    by_cases hl : (n : Int) / 8 < (l.length : Int)
    · rw [if_pos hl, if_pos (by omega), if_pos (by omega)]
      have e : ((n : Int) / 8).toNat = n / 8 := by omega
      have e2 : (n : Int) % 8 = ((n % 8 : Nat) : Int) := by omega
      unfold rd B
      rw [e, e2, bit_eq (hb.at_ _) (by omega)]
    · rw [if_neg hl, B_out (by omega)]
  · rw [if_neg h0, decide_eq_false (by omega)]; rfl
theorem get_nat {l : List Int} (hb : Bytes l) {i : Nat} (h1 : (i : Int) ≤ 9223372036854775807) : bits_Get.f l (i : Int) = some (B l i) := by
  rw [get_eq hb h1, decide_eq_true (by omega)]; simp

/-- with one bit more -/
def setB (l : List Int) (i : Nat) : List Int := l.set (i / 8) (((l.getD (i / 8) 0).toNat ||| 2 ^ (i % 8) : Nat) : Int)
theorem or_fin : ∀ x : Fin 256, ∀ t : Fin 8, Go.bits .or .u8 (x.val : Int) (shl .u8 1 (t.val : Int)) = ((x.val ||| 2 ^ t.val : Nat) : Int) ∧ (x.val ||| 2 ^ t.val) < 256 := by decide +kernel
theorem or_eq {x : Int} (h : 0 ≤ x ∧ x ≤ 255) {t : Nat} (ht : t < 8) : Go.bits .or .u8 x (shl .u8 1 (t : Int)) = ((x.toNat ||| 2 ^ t : Nat) : Int) ∧ (x.toNat ||| 2 ^ t) < 256 := by
  have := or_fin ⟨x.toNat, by omega⟩ ⟨t, ht⟩
  simp only [Int.toNat_of_nonneg h.1] at this
  exact this
theorem setB_bytes {l : List Int} (hb : Bytes l) (i : Nat) : Bytes (setB l i) :=
  hb.set _ (by have := (or_eq (hb.at_ (i / 8)) (show i % 8 < 8 by omega)).2; omega)
theorem setB_length (l : List Int) (i : Nat) : (setB l i).length = l.length := List.length_set
theorem setB_out {l : List Int} {i : Nat} (h : 8 * l.length ≤ i) : setB l i = l := by
  unfold setB
  exact List.set_eq_of_length_le (by omega)
theorem B_set (l : List Int) (i j : Nat) : B (setB l i) j = (B l j || decide (i = j ∧ i < 8 * l.length)) := by
  by_cases h : i < 8 * l.length
  · unfold B setB
    rw [List.getD_eq_getElem?_getD, List.getD_eq_getElem?_getD, List.getD_eq_getElem?_getD]
    by_cases e : i / 8 = j / 8
    · rw [e, List.getElem?_set_self (by omega), Option.getD_some, Int.toNat_natCast, Nat.testBit_or, Nat.testBit_two_pow]
      congr 1
      exact decide_eq_decide.2 ⟨fun q => ⟨by omega, h⟩, fun q => by omega⟩
    · rw [List.getElem?_set_ne e, decide_eq_false (by omega), Bool.or_false]
  · rw [setB_out (by omega), decide_eq_false (by omega), Bool.or_false]
theorem B_cons_lt {c : Int} {t : List Int} {i : Nat} (h : i < 8) : B (c :: t) i = c.toNat.testBit i := by
  unfold B
  rw [show i / 8 = 0 by omega, show i % 8 = i by omega]; rfl
theorem B_cons_ge {c : Int} {t : List Int} {i : Nat} : B (c :: t) (i + 8) = B t i := by
  unfold B
  rw [show (i + 8) / 8 = i / 8 + 1 by omega, show (i + 8) % 8 = i % 8 by omega]; rfl
theorem mem_lowB {c x : Int} : x ∈ lowB c ↔ ∃ i : Nat, i < 8 ∧ c.toNat.testBit i = true ∧ x = i := by
  unfold lowB
  rw [List.mem_map]
  exact ⟨fun ⟨i, hi, e⟩ => ⟨i, List.mem_range.1 (List.mem_filter.1 hi).1, (List.mem_filter.1 hi).2, e.symm⟩, fun ⟨i, h1, h2, e⟩ => ⟨i, List.mem_filter.2 ⟨List.mem_range.2 h1, h2⟩, e.symm⟩⟩
theorem mem_posns (l : List Int) : ∀ (k x : Int), x ∈ posns k l ↔ ∃ i : Nat, B l i = true ∧ x = k * 8 + i := by
  induction l with
  | nil => intro k x; simp [posns, B]
  | cons c t ih =>
    intro k x
    rw [posns, List.mem_append, ih, posAt, List.mem_map]
    constructor
    · rintro (⟨y, hy, rfl⟩ | ⟨i, hi, rfl⟩)
      · obtain ⟨i, h1, h2, rfl⟩ := mem_lowB.1 hy
        exact ⟨i, by rw [B_cons_lt h1]; exact h2, rfl⟩
      · exact ⟨i + 8, by rw [B_cons_ge]; exact hi, by omega⟩
    · rintro ⟨i, hi, rfl⟩
      by_cases h : i < 8
      · rw [B_cons_lt h] at hi
        exact .inl ⟨i, mem_lowB.2 ⟨i, h, hi, rfl⟩, rfl⟩
      · obtain ⟨j, rfl⟩ : ∃ j, i = j + 8 := ⟨i - 8, by omega⟩
        rw [B_cons_ge] at hi
        exact .inr ⟨j, hi, by omega⟩
theorem lowB_sorted (c : Int) : (lowB c).Pairwise (· < ·) := by
  unfold lowB
  rw [List.pairwise_map]
  exact ((List.pairwise_lt_range (n := 8)).filter _).imp fun h => by omega
theorem posns_sorted (l : List Int) : ∀ k, (posns k l).Pairwise (· < ·) := by
  induction l with
  | nil => intro k; exact List.Pairwise.nil
  | cons c t ih =>
    intro k
    rw [posns, List.pairwise_append]
    refine ⟨?_, ih _, fun a ha b hb => ?_⟩
    · unfold posAt
      rw [List.pairwise_map]
      exact (lowB_sorted c).imp fun h => by omega
    · obtain ⟨y, hy, rfl⟩ := List.mem_map.1 ha
      obtain ⟨i, h1, _, rfl⟩ := mem_lowB.1 hy
      obtain ⟨j, _, rfl⟩ := (mem_posns _ _ _).1 hb
      omega
theorem firstOf_spec (p : List Int) (hs : p.Pairwise (· < ·)) : ∀ (k : Int), (∀ x ∈ p, k ≤ x) → k ≤ firstOf k p ∧ firstOf k p ∉ p ∧ ∀ x, k ≤ x → x < firstOf k p → x ∈ p := by
  induction p with
  | nil => intro k _; simp only [firstOf]; exact ⟨by omega, by simp, fun x h1 h2 => by omega⟩
  | cons i t ih =>
    intro k hk
    rw [List.pairwise_cons] at hs
    simp only [firstOf]
    by_cases h : i > k
    · rw [if_pos h]
      refine ⟨by omega, fun hm => ?_, fun x h1 h2 => by omega⟩
      rcases List.mem_cons.1 hm with e | hm
      · omega
      · have := hs.1 _ hm; omega
    · rw [if_neg h]
      have hi := hk i (by simp)
      obtain rfl : i = k := by omega
      obtain ⟨a1, a2, a3⟩ := ih hs.2 (i + 1) (fun x hx => by have := hs.1 _ hx; omega)
      refine ⟨by omega, fun hm => ?_, fun x h1 h2 => ?_⟩
      · rcases List.mem_cons.1 hm with e | hm
        · omega
        · exact a2 hm
      · by_cases e : x = i
        · subst e; simp
        · exact List.mem_cons_of_mem _ (a3 x (by omega) h2)
/-- the least that is not set -/
theorem first_spec (l : List Int) : ∃ m : Nat, firstOf 0 (posns 0 l) = (m : Int) ∧ B l m = false ∧ ∀ i, i < m → B l i = true := by
  obtain ⟨a1, a2, a3⟩ := firstOf_spec _ (posns_sorted l 0) 0 (fun x hx => by obtain ⟨i, _, rfl⟩ := (mem_posns _ _ _).1 hx; omega)
  obtain ⟨m, hm⟩ : ∃ m : Nat, firstOf 0 (posns 0 l) = (m : Int) := ⟨_, (Int.toNat_of_nonneg a1).symm⟩
  rw [hm] at a2 a3
  refine ⟨m, hm, ?_, fun i hi => ?_⟩
  · cases hB : B l m with
    | false => rfl
    | true => exact absurd ((mem_posns _ _ _).2 ⟨m, hB, by omega⟩) a2
  · obtain ⟨j, hj, e⟩ := (mem_posns _ _ _).1 (a3 i (by omega) (by omega))
    obtain rfl : i = j := by omega
    exact hj
theorem first_eq {l : List Int} (hb : Bytes l) (hl : l.length < 140737488355328) (n : Int) : bits_First.f l n = some (mn (firstOf 0 (posns 0 l)) (mx 0 (mn n 65536))) := by
  have hB : bytesB l = true := by
    unfold bytesB
    rw [List.all_eq_true]
    intro x hx
    have := hb x hx
    simpa using this
  unfold bits_First.f
  rw [if_pos ⟨hl, hB⟩]
theorem make_nat {n : Nat} (h : n ≤ 65536) : bits_Make.f (n : Int) = some (List.replicate ((n + 7) / 8) 0) := by
  have e : mx 0 (mn (n : Int) 65536) = (n : Int) := by unfold mx mn; split <;> split <;> omega
  have e2 : word_Ceil.f (n : Int) 8 = some (((n + 7) / 8 : Nat) : Int) := by
    unfold word_Ceil.f
    rw [if_neg (by omega), if_neg (by omega), if_neg (by omega), if_neg (by omega), if_neg (by omega), w64 (x := (n : Int) + 8) (by omega) (by omega), w64 (x := (n : Int) + 8 - 1) (by omega) (by omega), tdivn (by omega), w64 (by omega) (by omega)]
    congr 1; omega
  unfold bits_Make.f
  rw [e, e2, Option.bind_some, if_pos (by omega), if_pos (by omega), Int.toNat_natCast]
theorem B_zeros (n i : Nat) : B (List.replicate n 0) i = false := by
  unfold B
  rw [List.getD_eq_getElem?_getD, List.getElem?_replicate]
  split <;> exact Nat.zero_testBit _
theorem known_eq (k : Nat) (hk : 3 < k) : scullerlaw03_known.f k = some true := by
  obtain ⟨j, rfl⟩ : ∃ j, k = 4 + j := ⟨k - 4, by omega⟩
  clear hk
  induction j with
  | zero => decide +kernel
  | succ j ih => exact scullerlaw03_known.mono _ _ ih
end Go.Proofs.Ytbaokbfmancjlaa.E
