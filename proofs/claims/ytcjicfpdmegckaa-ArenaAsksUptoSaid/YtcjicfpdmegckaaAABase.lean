/- Strings made of bytes are the same just if the bytes are. Conditions: those in each theorem. -/
/- What word.Put computes: the lowest bytes of a number, the least first. Conditions: none. -/
/- What word.Get, and the document's Put and Get, compute: the bytes of a number, the least first; the number of the first eight bytes. Conditions: those of a uint64, and of bytes. -/
/- What the document's Get computes: the number of the first eight bytes. Conditions: that they are bytes. -/
import Derived.Test.YtcjicfpdmegckaaCrcN
import Derived.Test.YtcjicfpdmegckaaAx0
import Derived.Test.YtcjicfpdmegckaaWMore
import Derived.Test.YtcjicfpdmegckaaAx2
import Derived.Test.YtcjicfpdmegckaaNum
import Derived.Test.YtcjicfpdmegckaaAx10
import Derived.Test.YtcjicfpdmegckaaAgGet
import Derived.Laws.BitsAllLaws
import Derived.Test.YtcjicfpdmegckaaAx16
namespace Go.Proofs.Ytcjicfpdmegckaa.A
open Go.RowKit Go.Proofs.YtcjicfpdmegckaaW.PrintWords Go.Proofs.YtcjicfpdmegckaaW.PrintLast Go.Proofs.YtcjicfpdmegckaaW.PrintMore Go.Proofs.Ytcjicfpdmegckaa.Num Go.Proofs.Ytcjicfpdmegckaa.CrcN

def Bytes (l : List Int) : Prop := ∀ x ∈ l, 0 ≤ x ∧ x ≤ 255
theorem Bytes.of_wf {l : List Int} (h : ∀ x ∈ l, (Lit.int .u8 x).wf = true) : Bytes l := fun x hx => bounds_u8 (h x hx)
theorem Bytes.take {l : List Int} (h : Bytes l) (n : Nat) : Bytes (l.take n) := fun x hx => h x (List.mem_of_mem_take hx)
theorem Bytes.drop {l : List Int} (h : Bytes l) (n : Nat) : Bytes (l.drop n) := fun x hx => h x (List.mem_of_mem_drop hx)
theorem Bytes.append {a b : List Int} (ha : Bytes a) (hb : Bytes b) : Bytes (a ++ b) := fun x hx => (List.mem_append.1 hx).elim (ha x) (hb x)
/-- strings are the same just if the bytes are -/
theorem str_eq {a b : List Int} (ha : Bytes a) (hb : Bytes b) : ((strOfNums a).toList == (strOfNums b).toList) = decide (a = b) := by
  by_cases h : a = b
  · subst h; simp
  · rw [decide_eq_false h]
    apply beq_eq_false_iff_ne.2
    intro he
    apply h
    have hd := he
    rw [ByteArray.toList_eq, ByteArray.toList_eq, strOfNums_data, strOfNums_data] at hd
    have e : ∀ l : List Int, Bytes l → (l.map fun n => UInt8.ofNat n.toNat).map (fun c => (c.toNat : Int)) = l := by
      intro l hl
      rw [List.map_map]
      conv => rhs; rw [← List.map_id l]
      apply List.map_congr_left
      intro x hx
      have := hl x hx
      simp only [Function.comp, id]
      show ((x.toNat % 256 : Nat) : Int) = x
      omega
    rw [← e a ha, ← e b hb, hd]
end Go.Proofs.Ytcjicfpdmegckaa.A

namespace Go.Proofs.Ytcjicfpdmegckaa.A
open Go.RowKit Go.Proofs.YtcjicfpdmegckaaW.PrintWords Go.Proofs.YtcjicfpdmegckaaW.PrintLast Go.Proofs.YtcjicfpdmegckaaW.PrintMore Go.Proofs.Ytcjicfpdmegckaa.Num

/-- the lowest m bytes of a number, the least first -/
def putL (n : Int) : Nat → List Int
  | 0 => []
  | m + 1 => putL n m ++ [n / 256 ^ m % 256]
theorem putL_length (n : Int) (m : Nat) : (putL n m).length = m := by
  induction m with
  | zero => rfl
  | succ m ih => simp [putL, ih]
/-- how many bytes are asked for -/
def asked (s : Int) : Nat := (mx 0 (mn s 8)).toNat
theorem asked_le (s : Int) : asked s ≤ 8 := by unfold asked mx mn; (repeat' split) <;> omega
theorem asked_nat {m : Nat} (h : m ≤ 8) : asked m = m := by unfold asked mx mn; (repeat' split) <;> omega
theorem pow256 (m : Nat) : (256 : Int) ^ m = 2 ^ (8 * m) := by rw [Int.pow_mul]; rfl
theorem shr8 (n : Int) (i : Nat) (h : i ≤ 8) : shr .u64 n (wrap64 (8 * (i : Int))) = n / 256 ^ i := by
  rw [w64 (by omega) (by omega)]
  unfold shr
  have : min (8 * (i : Int)).toNat IntKind.u64.bits = 8 * i := by simp [IntKind.bits]; omega
  rw [this, pow256]
theorem set_mid (xs ys : List Int) (a v : Int) : (xs ++ a :: ys).set xs.length v = xs ++ v :: ys := by
  induction xs with
  | nil => rfl
  | cons x xs ih => simp [ih]

theorem put_l0 (n : Int) (m : Nat) (hm : m ≤ 8) (d : Nat) : ∀ (k i : Nat), i + d = m → d < k → word_Put.l0 k n (putL n i ++ List.replicate d 0) (m : Int) (i : Int) = some (putL n m) := by
  induction d with
  | zero =>
    intro k i hi hk
    obtain ⟨k, rfl⟩ : ∃ j, k = j + 1 := ⟨k - 1, by omega⟩
    obtain rfl : i = m := by omega
    simp only [word_Put.l0]
    rw [if_neg (by omega)]
    simp
  | succ d ih =>
    intro k i hi hk
    obtain ⟨k, rfl⟩ : ∃ j, k = j + 1 := ⟨k - 1, by omega⟩
    simp only [word_Put.l0]
    rw [if_pos (by omega), shr8 n i (by omega), w64 (x := 8 * (i : Int)) (by omega) (by omega), if_pos (by omega), if_pos (by omega), if_pos (by simp [putL_length]; omega)]
    rw [w64 (x := (i : Int) + 1) (by omega) (by omega)]
    have e : (putL n i ++ List.replicate (d + 1) 0).set (i : Int).toNat (n / 256 ^ i % 256) = putL n (i + 1) ++ List.replicate d 0 := by
      have := set_mid (putL n i) (List.replicate d 0) 0 (n / 256 ^ i % 256)
      rw [putL_length] at this
      rw [Int.toNat_natCast, List.replicate_succ, this]
      simp [putL]
    rw [e]
    exact ih k (i + 1) (by omega) (by omega)
theorem put_eq (k : Nat) (hk : 8 < k) (n s : Int) : word_Put.f k n s = some (putL n (asked s)) := by
  unfold word_Put.f
  have h0 : 0 ≤ mx 0 (mn s 8) := by unfold mx; split <;> omega
  have h8 := asked_le s
  rw [if_pos h0, if_pos (by unfold asked at h8; omega)]
  have := put_l0 n (asked s) h8 (asked s) k 0 (by omega) (by omega)
  simp only [Option.bind_some, putL, List.nil_append] at this ⊢
  unfold asked at this ⊢
  simpa using this

end Go.Proofs.Ytcjicfpdmegckaa.A

namespace Go.Proofs.Ytcjicfpdmegckaa.A
open Go.RowKit Go.Proofs.YtcjicfpdmegckaaW.PrintWords Go.Proofs.YtcjicfpdmegckaaW.PrintLast Go.Proofs.YtcjicfpdmegckaaW.PrintMore Go.Proofs.Ytcjicfpdmegckaa.Num

theorem div256 {n : Int} (i : Nat) : n / 256 ^ (i + 1) = n / 256 ^ i / 256 := by
  rw [Int.pow_succ, Int.ediv_ediv_of_nonneg]
  exact Int.le_of_lt (Int.pow_pos (by decide))
theorem ref_put_l0 (n : Int) (hn : 0 ≤ n) (hn2 : n ≤ 18446744073709551615) (s : Int) (d : Nat) : ∀ (k i : Nat), i + d = asked s → d < k → i ≤ asked s →
    scullerref01_Put.l0 k (n / 256 ^ i) s (putL n i) (i : Int) = some (putL n (asked s)) := by
  have h8 := asked_le s
  induction d with
  | zero =>
    intro k i hi hk _
    obtain ⟨k, rfl⟩ : ∃ j, k = j + 1 := ⟨k - 1, by omega⟩
    obtain rfl : i = asked s := by omega
    simp only [scullerref01_Put.l0]
    by_cases hs : ((asked s : Nat) : Int) < s
    · rw [if_pos hs, if_neg]
      unfold asked mx mn at hs ⊢
      (repeat' split at hs) <;> (repeat' split) <;> omega
    · rw [if_neg hs]
  | succ d ih =>
    intro k i hi hk _
    obtain ⟨k, rfl⟩ : ∃ j, k = j + 1 := ⟨k - 1, by omega⟩
    simp only [scullerref01_Put.l0]
    have hs : (i : Int) < s := by unfold asked mx mn at hi; (repeat' split at hi) <;> omega
    have q0 : 0 ≤ n / 256 ^ i := Int.ediv_nonneg hn (Int.le_of_lt (Int.pow_pos (by decide)))
    have q1 : n / 256 ^ i ≤ n := Int.ediv_le_self _ hn
    rw [if_pos hs, if_pos (by omega), if_pos (by rw [putL_length]; omega), tdivn q0, tmodn q0, u64id (Int.ediv_nonneg q0 (by omega)) (by omega), ← div256, w64 (x := (i : Int) + 1) (by omega) (by omega)]
    rw [show n / 256 ^ i % 256 % 256 = n / 256 ^ i % 256 by omega]
    exact ih k (i + 1) (by omega) (by omega) (by omega)
theorem ref_put_eq (k : Nat) (hk : 8 < k) (n s : Int) (hn : 0 ≤ n) (hn2 : n ≤ 18446744073709551615) : scullerref01_Put.f k n s = some (putL n (asked s)) := by
  unfold scullerref01_Put.f
  have h8 := asked_le s
  have := ref_put_l0 n hn hn2 s (asked s) k 0 (by omega) (by omega) (by omega)
  simpa [putL] using this

/-- the number of bytes, the least first -/
def getL : List Int → Int
  | [] => 0
  | c :: l => getL l * 256 + c
theorem Bytes.cons {c : Int} {l : List Int} (h : Bytes (c :: l)) : (0 ≤ c ∧ c ≤ 255) ∧ Bytes l := ⟨h c List.mem_cons_self, fun x hx => h x (List.mem_cons_of_mem _ hx)⟩
theorem getL_bound (l : List Int) (h : Bytes l) : 0 ≤ getL l ∧ getL l < 256 ^ l.length := by
  induction l with
  | nil => simp [getL]
  | cons c l ih =>
    obtain ⟨hc, hl⟩ := h.cons
    obtain ⟨i0, i1⟩ := ih hl
    simp only [getL, List.length_cons, Int.pow_succ]
    omega
theorem or_step (n c : Int) (n0 : 0 ≤ n) (n1 : n < 72057594037927936) (c0 : 0 ≤ c) (c1 : c ≤ 255) : getStep n c = n * 256 + c := by
  unfold getStep
  rw [u64id (x := n * 256) (by omega) (by omega), u64id (x := c) (by omega) (by omega), u64_or _ _ (by omega) (by omega) (by omega) (by omega)]
  have e : (n * 256).toNat = n.toNat <<< 8 := by rw [Nat.shiftLeft_eq]; omega
  rw [e, ← Nat.shiftLeft_add_eq_or_of_lt (show c.toNat < 2 ^ 8 by omega), Nat.shiftLeft_eq]
  omega
theorem pow_le256 {a b : Nat} (h : a ≤ b) : (256 : Int) ^ a ≤ 256 ^ b := by rw [pow256, pow256]; exact pow_le_pow (by omega)

theorem getAll_backs (zs : List Int) (h : Bytes zs) (h8 : zs.length ≤ 8) : ∀ k, k ≤ zs.length → getAll (backs zs k) = getL (zs.drop (zs.length - k)) := by
  intro k
  induction k with
  | zero => intro _; simp [backs, getAll, getL]
  | succ k ih =>
    intro hk
    have hd : zs.drop (zs.length - (k + 1)) = zs[zs.length - 1 - k]?.getD 0 :: zs.drop (zs.length - k) := by
      have hi : zs.length - (k + 1) < zs.length := by omega
      rw [List.drop_eq_getElem_cons hi, show zs.length - (k + 1) + 1 = zs.length - k by omega]
      congr 1
      rw [show zs.length - 1 - k = zs.length - (k + 1) by omega, List.getElem?_eq_getElem hi]
      rfl
    rw [backs, getAll_snoc, ih (by omega), hd]
    have hb : Bytes (zs.drop (zs.length - k)) := fun x hx => h x (List.mem_of_mem_drop hx)
    obtain ⟨b0, b1⟩ := getL_bound _ hb
    have hl : (zs.drop (zs.length - k)).length ≤ 7 := by simp; omega
    have hp := pow_le256 hl
    have hc : 0 ≤ zs[zs.length - 1 - k]?.getD 0 ∧ zs[zs.length - 1 - k]?.getD 0 ≤ 255 := by
      have hi : zs.length - 1 - k < zs.length := by omega
      rw [List.getElem?_eq_getElem hi]
      exact h _ (List.getElem_mem hi)
    have h7 : (256 : Int) ^ 7 = 72057594037927936 := by decide
    rw [or_step _ _ b0 (by omega) hc.1 hc.2]
    rfl
theorem get_eq (l : List Int) (h : Bytes l) : word_Get.f l = some (getL (l.take 8)) := by
  unfold word_Get.f
  rw [getAll_backs (l.take 8) (h.take 8) (by simp; omega) _ (Nat.le_refl _), Nat.sub_self, List.drop_zero]

theorem putL_bytes (n : Int) (m : Nat) : Bytes (putL n m) := by
  induction m with
  | zero => intro x hx; simp [putL] at hx
  | succ m ih =>
    intro x hx
    simp only [putL, List.mem_append, List.mem_singleton] at hx
    rcases hx with hx | rfl
    · exact ih x hx
    · omega
theorem getL_append (a b : List Int) : getL (a ++ b) = getL a + 256 ^ a.length * getL b := by
  induction a with
  | nil => simp [getL]
  | cons c a ih =>
    simp only [List.cons_append, getL, ih, List.length_cons, Int.pow_succ, Int.add_mul]
    rw [Int.mul_right_comm]
    omega
theorem getL_putL (n : Int) (m : Nat) : getL (putL n m) = n % 256 ^ m := by
  induction m with
  | zero => simp [putL, getL]
  | succ m ih =>
    rw [putL, getL_append, ih, putL_length]
    simp only [getL, Int.zero_mul, Int.zero_add]
    have hp : (0 : Int) < 256 ^ m := Int.pow_pos (by decide)
    have e1 := Int.mul_ediv_add_emod n (256 ^ m)
    have e2 := Int.mul_ediv_add_emod (n / 256 ^ m) 256
    have e3 := Int.mul_ediv_add_emod n (256 ^ (m + 1))
    have e4 : n / 256 ^ (m + 1) = n / 256 ^ m / 256 := div256 m
    rw [e4, Int.pow_succ, Int.mul_assoc] at e3
    have e5 : 256 ^ m * (n / 256 ^ m) = 256 ^ m * (256 * (n / 256 ^ m / 256)) + 256 ^ m * (n / 256 ^ m % 256) := by rw [← Int.mul_add, e2]
    rw [show (256 : Int) ^ m * 256 = 256 ^ (m + 1) from (Int.pow_succ 256 m).symm] at e3
    omega
theorem getL_zeros (k : Nat) : getL (List.replicate k 0) = 0 := by
  induction k with
  | zero => rfl
  | succ k ih => simp [List.replicate_succ, getL, ih]
end Go.Proofs.Ytcjicfpdmegckaa.A

namespace Go.Proofs.Ytcjicfpdmegckaa.A
open Go.RowKit Go.Proofs.YtcjicfpdmegckaaW.PrintWords Go.Proofs.YtcjicfpdmegckaaW.PrintLast Go.Proofs.YtcjicfpdmegckaaW.PrintMore Go.Proofs.Ytcjicfpdmegckaa.Num

theorem ref_get_l0 (l : List Int) (h : Bytes l) (m : Nat) (hm : m ≤ 8) (hml : m ≤ l.length) (d : Nat) : ∀ (k : Nat), d ≤ m → d < k →
    scullerref01_Get.l0 k l (getL ((l.take m).drop d)) ((d : Int) - 1) = some (getL (l.take m)) := by
  induction d with
  | zero =>
    intro k _ hk
    obtain ⟨k, rfl⟩ : ∃ j, k = j + 1 := ⟨k - 1, by omega⟩
    simp only [scullerref01_Get.l0]
    rw [if_neg (by omega), List.drop_zero]
  | succ d ih =>
    intro k hd hk
    obtain ⟨k, rfl⟩ : ∃ j, k = j + 1 := ⟨k - 1, by omega⟩
    simp only [scullerref01_Get.l0]
    have e : ((d + 1 : Nat) : Int) - 1 = (d : Int) := by omega
    rw [e, if_pos (by omega), if_pos (by omega), if_pos (by omega), w64 (x := (d : Int) - 1) (by omega) (by omega)]
    have hi : d < l.length := by omega
    have hc : rd l (d : Int) = l[d] := by unfold rd; rw [Int.toNat_natCast, List.getD_eq_getElem?_getD, List.getElem?_eq_getElem hi]; rfl
    have hdr : (l.take m).drop d = l[d] :: (l.take m).drop (d + 1) := by
      rw [List.drop_eq_getElem_cons (by simp; omega)]
      simp
    obtain ⟨c0, c1⟩ := h _ (List.getElem_mem hi)
    obtain ⟨b0, b1⟩ := getL_bound ((l.take m).drop (d + 1)) (fun x hx => h x (List.mem_of_mem_take (List.mem_of_mem_drop hx)))
    have hl : ((l.take m).drop (d + 1)).length ≤ 7 := by simp; omega
    have hp := pow_le256 hl
    have h7 : (256 : Int) ^ 7 = 72057594037927936 := by decide
    rw [hc, u64id (x := l[d]) (by omega) (by omega), u64id (x := 256 * _) (by omega) (by omega), u64id (by omega) (by omega)]
    have := ih k (by omega) (by omega)
    rw [hdr] at this
    simp only [getL] at this
    rw [Int.mul_comm 256]
    exact this
theorem ref_get_eq (k : Nat) (hk : 8 < k) (l : List Int) (h : Bytes l) : scullerref01_Get.f k l = some (getL (l.take 8)) := by
  unfold scullerref01_Get.f
  by_cases h8 : l.length ≤ 8
  · have e : mn (l.length : Int) 8 = (l.length : Int) := by unfold mn; split <;> omega
    have := ref_get_l0 l h l.length h8 (Nat.le_refl _) l.length k (Nat.le_refl _) (by omega)
    rw [List.take_length, List.drop_length] at this
    rw [e, List.take_of_length_le h8]
    exact this
  · have e : mn (l.length : Int) 8 = ((8 : Nat) : Int) := by unfold mn; split <;> omega
    have := ref_get_l0 l h 8 (Nat.le_refl _) (by omega) 8 k (Nat.le_refl _) (by omega)
    rw [List.drop_of_length_le (by simp; omega)] at this
    rw [e]
    exact this

end Go.Proofs.Ytcjicfpdmegckaa.A
