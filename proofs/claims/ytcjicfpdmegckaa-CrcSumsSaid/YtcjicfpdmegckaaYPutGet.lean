/- What word.Get computes: the bytes of a number, the least first; the number of the first eight bytes. Conditions: those of a uint64, and of bytes. -/
import Derived.Test.YtcjicfpdmegckaaYgGet
import Derived.Test.YtcjicfpdmegckaaYPut
import Derived.Test.YtcjicfpdmegckaaYPutB
import Derived.Test.YtcjicfpdmegckaaYStr
import Derived.Test.YtcjicfpdmegckaaCrcN
import Derived.Laws.BitsAllLaws
namespace Go.Proofs.Ytcjicfpdmegckaa.Y
open Go.RowKit Go.Proofs.YtcjicfpdmegckaaW.PrintWords Go.Proofs.YtcjicfpdmegckaaW.PrintLast Go.Proofs.YtcjicfpdmegckaaW.PrintMore Go.Proofs.Ytcjicfpdmegckaa.Num

theorem div256 {n : Int} (i : Nat) : n / 256 ^ (i + 1) = n / 256 ^ i / 256 := by
  rw [Int.pow_succ, Int.ediv_ediv_of_nonneg]
  exact Int.le_of_lt (Int.pow_pos (by decide))
/-- the number of bytes, the least first -/
def getL : List Int → Int
  | [] => 0
  | c :: l => getL l * 256 + c
theorem Bytes.cons {c : Int} {l : List Int} (h : Bytes (c :: l)) : (0 ≤ c ∧ c ≤ 255) ∧ Bytes l := ⟨h c List.mem_cons_self, fun x hx => h x (List.mem_cons_of_mem _ hx)⟩
theorem getL_bound (l : List Int) (h : Bytes l) : 0 ≤ getL l ∧ getL l < 256 ^ l.length := by
  induction l with
  | nil => simp [getL]
  | cons c l ih =>
    obtain ⟨hc, hl⟩ := h.cons
    obtain ⟨i0, i1⟩ := ih hl
    simp only [getL, List.length_cons, Int.pow_succ]
    omega
theorem or_step (n c : Int) (n0 : 0 ≤ n) (n1 : n < 72057594037927936) (c0 : 0 ≤ c) (c1 : c ≤ 255) : getStep n c = n * 256 + c := by
  unfold getStep
  rw [u64id (x := n * 256) (by omega) (by omega), u64id (x := c) (by omega) (by omega), u64_or _ _ (by omega) (by omega) (by omega) (by omega)]
  have e : (n * 256).toNat = n.toNat <<< 8 := by rw [Nat.shiftLeft_eq]; omega
  rw [e, ← Nat.shiftLeft_add_eq_or_of_lt (show c.toNat < 2 ^ 8 by omega), Nat.shiftLeft_eq]
  omega
theorem pow_le256 {a b : Nat} (h : a ≤ b) : (256 : Int) ^ a ≤ 256 ^ b := by rw [pow256, pow256]; exact pow_le_pow (by omega)

theorem getAll_backs (zs : List Int) (h : Bytes zs) (h8 : zs.length ≤ 8) : ∀ k, k ≤ zs.length → getAll (backs zs k) = getL (zs.drop (zs.length - k)) := by
  intro k
  induction k with
  | zero => intro _; simp [backs, getAll, getL]
  | succ k ih =>
    intro hk
    have hd : zs.drop (zs.length - (k + 1)) = zs[zs.length - 1 - k]?.getD 0 :: zs.drop (zs.length - k) := by
      have hi : zs.length - (k + 1) < zs.length := by omega
      rw [List.drop_eq_getElem_cons hi, show zs.length - (k + 1) + 1 = zs.length - k by omega]
      congr 1
      rw [show zs.length - 1 - k = zs.length - (k + 1) by omega, List.getElem?_eq_getElem hi]
      rfl
    rw [backs, getAll_snoc, ih (by omega), hd]
    have hb : Bytes (zs.drop (zs.length - k)) := fun x hx => h x (List.mem_of_mem_drop hx)
    obtain ⟨b0, b1⟩ := getL_bound _ hb
    have hl : (zs.drop (zs.length - k)).length ≤ 7 := by simp; omega
    have hp := pow_le256 hl
    have hc : 0 ≤ zs[zs.length - 1 - k]?.getD 0 ∧ zs[zs.length - 1 - k]?.getD 0 ≤ 255 := by
      have hi : zs.length - 1 - k < zs.length := by omega
      rw [List.getElem?_eq_getElem hi]
      exact h _ (List.getElem_mem hi)
    have h7 : (256 : Int) ^ 7 = 72057594037927936 := by decide
    rw [or_step _ _ b0 (by omega) hc.1 hc.2]
    rfl
theorem get_eq (l : List Int) (h : Bytes l) : word_Get.f l = some (getL (l.take 8)) := by
  unfold word_Get.f
  rw [getAll_backs (l.take 8) (h.take 8) (by simp; omega) _ (Nat.le_refl _), Nat.sub_self, List.drop_zero]

theorem getL_append (a b : List Int) : getL (a ++ b) = getL a + 256 ^ a.length * getL b := by
  induction a with
  | nil => simp [getL]
  | cons c a ih =>
    simp only [List.cons_append, getL, ih, List.length_cons, Int.pow_succ, Int.add_mul]
    rw [Int.mul_right_comm]
    omega
theorem getL_putL (n : Int) (m : Nat) : getL (putL n m) = n % 256 ^ m := by
  induction m with
  | zero => simp [putL, getL]
  | succ m ih =>
    rw [putL, getL_append, ih, putL_length]
    simp only [getL, Int.zero_mul, Int.zero_add]
    have hp : (0 : Int) < 256 ^ m := Int.pow_pos (by decide)
    have e1 := Int.mul_ediv_add_emod n (256 ^ m)
    have e2 := Int.mul_ediv_add_emod (n / 256 ^ m) 256
    have e3 := Int.mul_ediv_add_emod n (256 ^ (m + 1))
    have e4 : n / 256 ^ (m + 1) = n / 256 ^ m / 256 := div256 m
    rw [e4, Int.pow_succ, Int.mul_assoc] at e3
    have e5 : 256 ^ m * (n / 256 ^ m) = 256 ^ m * (256 * (n / 256 ^ m / 256)) + 256 ^ m * (n / 256 ^ m % 256) := by rw [← Int.mul_add, e2]
    rw [show (256 : Int) ^ m * 256 = 256 ^ (m + 1) from (Int.pow_succ 256 m).symm] at e3
    omega
theorem getL_zeros (k : Nat) : getL (List.replicate k 0) = 0 := by
  induction k with
  | zero => rfl
  | succ k ih => simp [List.replicate_succ, getL, ih]
end Go.Proofs.Ytcjicfpdmegckaa.Y
