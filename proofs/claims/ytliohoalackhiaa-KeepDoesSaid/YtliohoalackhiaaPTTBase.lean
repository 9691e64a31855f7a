/- Strings made of bytes are the same just if the bytes are. Conditions: those in each theorem. -/
/- What word.Put computes: the lowest bytes of a number, the least first. Conditions: none. -/
/- What word.Put lays are bytes. Conditions: none. -/
/- What crc.Sum computes, in plain numbers: for every row of bytes. -/
/- What crc.Sum, crc.Seal and crc.Right compute, in plain numbers: for every row of bytes. -/
/- What word.Get computes: the bytes of a number, the least first; the number of the first eight bytes. Conditions: those of a uint64, and of bytes. -/
/- What the document's Put computes: the bytes of a number, the least first. Conditions: those of a uint64. -/
/- What the document's Step, More and Sum compute, in plain numbers: for every row of bytes. -/
/- What slices.Equal of whole numbers, tells: whether two rows are the same. Conditions: none. -/
/- What the document's word for the same whole numbers tells: whether two rows are the same. Conditions: none. -/
/- The bytes of sizes, two each. Conditions: none. -/
/- Bytes, and their sum behind them; the bytes of sizes, two each. Conditions: those in each theorem. -/
import Derived.Test.YtliohoalackhiaaPNum
import Derived.Test.YtliohoalackhiaaPCrcN
import Derived.Test.YtliohoalackhiaaPTx0
import Derived.Test.YtliohoalackhiaaPW
import Derived.Test.YtliohoalackhiaaPTx11
import Derived.Test.YtliohoalackhiaaPTgCrc
import Derived.Laws.BitsAllLaws
import Derived.Test.YtliohoalackhiaaPTx14
import Derived.Test.YtliohoalackhiaaPTgGet
import Derived.Test.YtliohoalackhiaaPTx5
import Derived.Test.YtliohoalackhiaaPTx7
import Derived.Test.YtliohoalackhiaaPTx6
import Derived.Test.YtliohoalackhiaaPTx16
import Derived.Test.YtliohoalackhiaaPTx10
namespace Go.Proofs.Ytliohoalackhiaa.T
open Go.RowKit Go.Proofs.YtliohoalackhiaaW.PrintWords Go.Proofs.YtliohoalackhiaaW.PrintLast Go.Proofs.YtliohoalackhiaaW.PrintMore Go.Proofs.Ytliohoalackhiaa.Num Go.Proofs.Ytliohoalackhiaa.CrcN
def Bytes (l : List Int) : Prop := ∀ x ∈ l, 0 ≤ x ∧ x ≤ 255
theorem Bytes.of_wf {l : List Int} (h : ∀ x ∈ l, (Lit.int .u8 x).wf = true) : Bytes l := fun x hx => bounds_u8 (h x hx)
theorem Bytes.take {l : List Int} (h : Bytes l) (n : Nat) : Bytes (l.take n) := fun x hx => h x (List.mem_of_mem_take hx)
theorem Bytes.drop {l : List Int} (h : Bytes l) (n : Nat) : Bytes (l.drop n) := fun x hx => h x (List.mem_of_mem_drop hx)
theorem Bytes.append {a b : List Int} (ha : Bytes a) (hb : Bytes b) : Bytes (a ++ b) := fun x hx => (List.mem_append.1 hx).elim (ha x) (hb x)
theorem str_eq {a b : List Int} (ha : Bytes a) (hb : Bytes b) : ((strOfNums a).toList == (strOfNums b).toList) = decide (a = b) := by
  by_cases h : a = b
  · subst h; simp
  · rw [decide_eq_false h]
    apply beq_eq_false_iff_ne.2
    intro he
    apply h
    have hd := he
    rw [ByteArray.toList_eq, ByteArray.toList_eq, strOfNums_data, strOfNums_data] at hd
    have e : ∀ l : List Int, Bytes l → (l.map fun n => UInt8.ofNat n.toNat).map (fun c => (c.toNat : Int)) = l := by
      intro l hl
      rw [List.map_map]
      conv => rhs; rw [← List.map_id l]
      apply List.map_congr_left
      intro x hx
      have := hl x hx
      simp only [Function.comp, id]
      show ((x.toNat % 256 : Nat) : Int) = x
      omega
    rw [← e a ha, ← e b hb, hd]
end Go.Proofs.Ytliohoalackhiaa.T
namespace Go.Proofs.Ytliohoalackhiaa.T
open Go.RowKit Go.Proofs.YtliohoalackhiaaW.PrintWords Go.Proofs.YtliohoalackhiaaW.PrintLast Go.Proofs.YtliohoalackhiaaW.PrintMore Go.Proofs.Ytliohoalackhiaa.Num
def putL (n : Int) : Nat → List Int
  | 0 => []
  | m + 1 => putL n m ++ [n / 256 ^ m % 256]
theorem putL_length (n : Int) (m : Nat) : (putL n m).length = m := by
  induction m with
  | zero => rfl
  | succ m ih => simp [putL, ih]
def asked (s : Int) : Nat := (mx 0 (mn s 8)).toNat
theorem asked_le (s : Int) : asked s ≤ 8 := by unfold asked mx mn; (repeat' split) <;> omega
theorem pow256 (m : Nat) : (256 : Int) ^ m = 2 ^ (8 * m) := by rw [Int.pow_mul]; rfl
theorem shr8 (n : Int) (i : Nat) (h : i ≤ 8) : shr .u64 n (wrap64 (8 * (i : Int))) = n / 256 ^ i := by
  rw [w64 (by omega) (by omega)]
  unfold shr
  have : min (8 * (i : Int)).toNat IntKind.u64.bits = 8 * i := by simp [IntKind.bits]; omega
  rw [this, pow256]
theorem set_mid (xs ys : List Int) (a v : Int) : (xs ++ a :: ys).set xs.length v = xs ++ v :: ys := by
  induction xs with
  | nil => rfl
  | cons x xs ih => simp [ih]
theorem put_l0 (n : Int) (m : Nat) (hm : m ≤ 8) (d : Nat) : ∀ (k i : Nat), i + d = m → d < k → word_Put.l0 k n (putL n i ++ List.replicate d 0) (m : Int) (i : Int) = some (putL n m) := by
  induction d with
  | zero =>
    intro k i hi hk
    obtain ⟨k, rfl⟩ : ∃ j, k = j + 1 := ⟨k - 1, by omega⟩
    obtain rfl : i = m := by omega
    simp only [word_Put.l0]
    rw [if_neg (by omega)]
    simp
  | succ d ih =>
    intro k i hi hk
    obtain ⟨k, rfl⟩ : ∃ j, k = j + 1 := ⟨k - 1, by omega⟩
    simp only [word_Put.l0]
    rw [if_pos (by omega), shr8 n i (by omega), w64 (x := 8 * (i : Int)) (by omega) (by omega), if_pos (by omega), if_pos (by omega), if_pos (by simp [putL_length]; omega)]
    rw [w64 (x := (i : Int) + 1) (by omega) (by omega)]
    have e : (putL n i ++ List.replicate (d + 1) 0).set (i : Int).toNat (n / 256 ^ i % 256) = putL n (i + 1) ++ List.replicate d 0 := by
      have := set_mid (putL n i) (List.replicate d 0) 0 (n / 256 ^ i % 256)
      rw [putL_length] at this
      rw [Int.toNat_natCast, List.replicate_succ, this]
      simp [putL]
    rw [e]
    exact ih k (i + 1) (by omega) (by omega)
theorem put_eq (k : Nat) (hk : 8 < k) (n s : Int) : word_Put.f k n s = some (putL n (asked s)) := by
  unfold word_Put.f
  have h0 : 0 ≤ mx 0 (mn s 8) := by unfold mx; split <;> omega
  have h8 := asked_le s
  rw [if_pos h0, if_pos (by unfold asked at h8; omega)]
  have := put_l0 n (asked s) h8 (asked s) k 0 (by omega) (by omega)
  simp only [Option.bind_some, putL, List.nil_append] at this ⊢
  unfold asked at this ⊢
  simpa using this
end Go.Proofs.Ytliohoalackhiaa.T
namespace Go.Proofs.Ytliohoalackhiaa.T
open Go.RowKit Go.Proofs.YtliohoalackhiaaW.PrintWords Go.Proofs.YtliohoalackhiaaW.PrintLast Go.Proofs.YtliohoalackhiaaW.PrintMore Go.Proofs.Ytliohoalackhiaa.Num
theorem putL_bytes (n : Int) (m : Nat) : Bytes (putL n m) := by
  induction m with
  | zero => intro x hx; simp [putL] at hx
  | succ m ih =>
    intro x hx
    simp only [putL, List.mem_append, List.mem_singleton] at hx
    rcases hx with hx | rfl
    · exact ih x hx
    · omega
end Go.Proofs.Ytliohoalackhiaa.T
namespace Go.Proofs.Ytliohoalackhiaa.T
open Go.RowKit Go.Proofs.YtliohoalackhiaaW.PrintWords Go.Proofs.YtliohoalackhiaaW.PrintLast Go.Proofs.YtliohoalackhiaaW.PrintMore Go.Proofs.Ytliohoalackhiaa.Num Go.Proofs.Ytliohoalackhiaa.CrcN
def ints (l : List Nat) : List Int := l.map fun (n : Nat) => (n : Int)
def nats (l : List Int) : List Nat := l.map Int.toNat
theorem ints_nats {l : List Int} (h : Bytes l) : ints (nats l) = l := by
  unfold ints nats
  rw [List.map_map]
  conv => rhs; rw [← List.map_id l]
  apply List.map_congr_left
  intro x hx
  have := h x hx
  simp [Function.comp]; omega
theorem nats_ints (l : List Nat) : nats (ints l) = l := by
  unfold ints nats
  rw [List.map_map]
  conv => rhs; rw [← List.map_id l]
  apply List.map_congr_left
  intro x _
  simp [Function.comp]
theorem nats_lt {l : List Int} (h : Bytes l) : ∀ x ∈ nats l, x < 256 := by
  intro x hx
  obtain ⟨y, hy, rfl⟩ := List.mem_map.1 hx
  have := h y hy
  omega
theorem ints_bytes {l : List Nat} (h : ∀ x ∈ l, x < 256) : Bytes (ints l) := by
  intro x hx
  obtain ⟨y, hy, rfl⟩ := List.mem_map.1 hx
  have := h y hy
  omega
theorem ints_inj {a b : List Nat} (h : ints a = ints b) : a = b := by rw [← nats_ints a, h, nats_ints]
theorem step_nat (n : Nat) (h : n < 4294967296) : stepI (n : Int) = (stepN n : Nat) := by
  unfold stepI stepN
  have h1 : Go.bits .and .u32 (n : Int) 1 = ((n % 2 : Nat) : Int) := by
    have := u32_and_nat n 1 h (by decide)
    rw [show ((1 : Nat) : Int) = 1 from rfl] at this
    rw [this, Nat.and_one_is_mod]
  rw [h1]
  have h2 : (2197175160 * ((n % 2 : Nat) : Int)) % 4294967296 = ((poly * (n % 2) : Nat) : Int) := by
    unfold poly
    rcases two_cases n with e | e <;> rw [e] <;> rfl
  have h3 : poly * (n % 2) < 4294967296 := by
    unfold poly
    rcases two_cases n with e | e <;> rw [e] <;> decide
  rw [h2, show (n : Int) / 2 = ((n / 2 : Nat) : Int) from rfl, u32_xor_nat _ _ (by omega) h3]
theorem st_last (k x : Nat) : st (k + 1) x = stepN (st k x) := by rw [Nat.add_comm, st_add]; rfl
theorem eight_nat (n : Nat) (h : n < 4294967296) (k : Nat) : eightI (n : Int) k = (st k n : Nat) := by
  induction k with
  | zero => rfl
  | succ k ih => rw [eightI, ih, step_nat _ (st_lt k h), st_last]
theorem tab_nat (i : Nat) (h : i < 256) : tabI i = (st 8 i : Nat) := by
  unfold tabI
  have : IntKind.u32.wrap (i : Int) = i := by simp [IntKind.wrap, IntKind.bits, IntKind.signed]; omega
  rw [this, eight_nat i (by omega)]
theorem join8 (n : Nat) : n = n % 256 ^^^ 2 ^ 8 * (n / 256) := by
  have hl : n % 256 < 2 ^ 8 := Nat.mod_lt _ (by omega)
  have h1 := Nat.two_pow_add_eq_or_of_lt hl (n / 256)
  have h2 : n % 256 ^^^ 2 ^ 8 * (n / 256) = 2 ^ 8 * (n / 256) ||| n % 256 := by
    apply Nat.eq_of_testBit_eq
    intro k
    rw [Nat.testBit_or, Nat.testBit_xor]
    by_cases hk : k < 8
    · rw [Nat.testBit_two_pow_mul]; simp [show ¬ 8 ≤ k by omega]
    · rw [Nat.testBit_lt_two_pow (x := n % 256) (i := k) (Nat.lt_of_lt_of_le hl (Nat.pow_le_pow_right (show 2 > 0 by decide) (show 8 ≤ k by omega)))]; simp
  rw [h2, ← h1]; omega
theorem byte_nat (n c : Nat) (hn : n < 4294967296) (hc : c < 256) : mstep tabI (n : Int) (c : Int) = (byteN n c : Nat) := by
  unfold mstep byteN
  have h1 : Go.bits .xor .u8 ((n : Int) % 256) (c : Int) = ((n % 256 ^^^ c : Nat) : Int) := u8_xor_nat (n % 256) c (by omega) hc
  have h2 : n % 256 ^^^ c < 256 := Nat.xor_lt_two_pow (n := 8) (by omega) hc
  rw [h1, Int.toNat_natCast, tab_nat _ h2, show (n : Int) / 256 = ((n / 256 : Nat) : Int) from rfl, u32_xor_nat _ _ (by omega) (st_lt 8 (by omega))]
  have e : n ^^^ c = (n % 256 ^^^ c) ^^^ 2 ^ 8 * (n / 256) := by
    conv => lhs; rw [join8 n]
    rw [Nat.xor_assoc, Nat.xor_comm (2 ^ 8 * _), ← Nat.xor_assoc]
  rw [e, xor_shift, Nat.xor_comm]
theorem fold_nat (l : List Nat) (hl : ∀ x ∈ l, x < 256) : ∀ (s : Nat), s < 4294967296 → (ints l).foldl (mstep tabI) (s : Int) = (F s l : Nat) := by
  induction l with
  | nil => intro s _; rfl
  | cons c l ih =>
    intro s hs
    have hc := hl c List.mem_cons_self
    show List.foldl (mstep tabI) (mstep tabI (s : Int) (c : Int)) (ints l) = _
    rw [byte_nat s c hs hc, ih (fun x hx => hl x (List.mem_cons_of_mem _ hx)) _ (byteN_lt hs hc), F_cons]
theorem compl_nat (n : Nat) (h : n < 4294967296) : compl (n : Int) = (top ^^^ n : Nat) := by
  unfold compl
  have : IntKind.u32.max = ((top : Nat) : Int) := by decide
  rw [this, u32_xor_nat _ _ top_lt h]
theorem more_nat (n : Nat) (hn : n < 4294967296) (l : List Nat) (hl : ∀ x ∈ l, x < 256) : moreI tabI (n : Int) (ints l) = (top ^^^ F (top ^^^ n) l : Nat) := by
  have h1 : top ^^^ n < 4294967296 := Nat.xor_lt_two_pow (n := 32) top_lt hn
  unfold moreI
  rw [compl_nat n hn, fold_nat l hl _ h1, compl_nat _ (F_lt h1 l hl)]
theorem sum_eq (l : List Int) (h : Bytes l) : crc_Sum.f l = some ((sumN (nats l) : Nat) : Int) := by
  unfold crc_Sum.f
  have := more_nat 0 (by decide) (nats l) (nats_lt h)
  rw [ints_nats h] at this
  rw [show (0 : Int) = ((0 : Nat) : Int) from rfl, this]
  simp [sumN]
end Go.Proofs.Ytliohoalackhiaa.T
namespace Go.Proofs.Ytliohoalackhiaa.T
open Go.RowKit Go.Proofs.YtliohoalackhiaaW.PrintWords Go.Proofs.YtliohoalackhiaaW.PrintLast Go.Proofs.YtliohoalackhiaaW.PrintMore Go.Proofs.Ytliohoalackhiaa.Num Go.Proofs.Ytliohoalackhiaa.CrcN
theorem four_put (n : Nat) : putL (n : Int) 4 = ints (four n) := by
  simp [putL, ints, four]
theorem asked4 : asked 4 = 4 := by decide
theorem seal_eq (k : Nat) (hk : 8 < k) (l : List Int) (h : Bytes l) (hl : l.length < 140737488355320) : crc_Seal.f k l = some (l ++ ints (four (sumN (nats l)))) := by
  have hs := sumN_lt (nats l) (nats_lt h)
  unfold crc_Seal.f bytes_Clone.f
  rw [if_pos (by omega), sum_eq l h]
  simp only [Option.bind_some]
  rw [u64id (by omega) (by omega), put_eq k hk, asked4, four_put]
  simp only [Option.bind_some]
  rw [if_pos (by simp [ints, four]; omega)]
theorem equal_eq {a b : List Int} (ha : Bytes a) (hb : Bytes b) : bytes_Equal.f a b = some (decide (a = b)) := by
  unfold bytes_Equal.f
  rw [str_eq ha hb]
theorem right_four (k : Nat) (hk : 8 < k) (l : List Int) (h : Bytes l) (hl : l.length < 140737488355320) (t : Nat) (ht : t < 4294967296) :
    crc_Right.f k (l ++ ints (four t)) = some (decide (sumN (nats l) = t)) := by
  have hb4 : Bytes (ints (four t)) := ints_bytes (by intro x hx; simp [four] at hx; omega)
  have hlen : ((l ++ ints (four t)).length : Int) - 4 = l.length := by simp [ints, four]
  have hs := sumN_lt (nats l) (nats_lt h)
  unfold crc_Right.f
  rw [hlen, w64 (by omega) (by omega), if_pos (by omega), if_pos (by omega), if_pos (by rw [List.length_append]; omega), Int.toNat_natCast, List.take_left, seal_eq k hk l h hl]
  simp only [Option.bind_some]
  rw [equal_eq (h.append (ints_bytes (by intro x hx; simp [four] at hx; omega))) (h.append hb4)]
  simp only [Option.bind_some]
  congr 1
  rw [decide_eq_decide, List.append_cancel_left_eq]
  constructor
  · intro e; exact four_inj hs ht (ints_inj e)
  · intro e; rw [e]
end Go.Proofs.Ytliohoalackhiaa.T
namespace Go.Proofs.Ytliohoalackhiaa.T
open Go.RowKit Go.Proofs.YtliohoalackhiaaW.PrintWords Go.Proofs.YtliohoalackhiaaW.PrintLast Go.Proofs.YtliohoalackhiaaW.PrintMore Go.Proofs.Ytliohoalackhiaa.Num
theorem div256 {n : Int} (i : Nat) : n / 256 ^ (i + 1) = n / 256 ^ i / 256 := by
  rw [Int.pow_succ, Int.ediv_ediv_of_nonneg]
  exact Int.le_of_lt (Int.pow_pos (by decide))
def getL : List Int → Int
  | [] => 0
  | c :: l => getL l * 256 + c
theorem Bytes.cons {c : Int} {l : List Int} (h : Bytes (c :: l)) : (0 ≤ c ∧ c ≤ 255) ∧ Bytes l := ⟨h c List.mem_cons_self, fun x hx => h x (List.mem_cons_of_mem _ hx)⟩
theorem getL_bound (l : List Int) (h : Bytes l) : 0 ≤ getL l ∧ getL l < 256 ^ l.length := by
  induction l with
  | nil => simp [getL]
  | cons c l ih =>
    obtain ⟨hc, hl⟩ := h.cons
    obtain ⟨i0, i1⟩ := ih hl
    simp only [getL, List.length_cons, Int.pow_succ]
    omega
theorem or_step (n c : Int) (n0 : 0 ≤ n) (n1 : n < 72057594037927936) (c0 : 0 ≤ c) (c1 : c ≤ 255) : getStep n c = n * 256 + c := by
  unfold getStep
  rw [u64id (x := n * 256) (by omega) (by omega), u64id (x := c) (by omega) (by omega), u64_or _ _ (by omega) (by omega) (by omega) (by omega)]
  have e : (n * 256).toNat = n.toNat <<< 8 := by rw [Nat.shiftLeft_eq]; omega
  rw [e, ← Nat.shiftLeft_add_eq_or_of_lt (show c.toNat < 2 ^ 8 by omega), Nat.shiftLeft_eq]
  omega
theorem pow_le256 {a b : Nat} (h : a ≤ b) : (256 : Int) ^ a ≤ 256 ^ b := by rw [pow256, pow256]; exact pow_le_pow (by omega)
theorem getAll_backs (zs : List Int) (h : Bytes zs) (h8 : zs.length ≤ 8) : ∀ k, k ≤ zs.length → getAll (backs zs k) = getL (zs.drop (zs.length - k)) := by
  intro k
  induction k with
  | zero => intro _; simp [backs, getAll, getL]
  | succ k ih =>
    intro hk
    have hd : zs.drop (zs.length - (k + 1)) = zs[zs.length - 1 - k]?.getD 0 :: zs.drop (zs.length - k) := by
      have hi : zs.length - (k + 1) < zs.length := by omega
      rw [List.drop_eq_getElem_cons hi, show zs.length - (k + 1) + 1 = zs.length - k by omega]
      congr 1
      rw [show zs.length - 1 - k = zs.length - (k + 1) by omega, List.getElem?_eq_getElem hi]
      rfl
    rw [backs, getAll_snoc, ih (by omega), hd]
    have hb : Bytes (zs.drop (zs.length - k)) := fun x hx => h x (List.mem_of_mem_drop hx)
    obtain ⟨b0, b1⟩ := getL_bound _ hb
    have hl : (zs.drop (zs.length - k)).length ≤ 7 := by simp; omega
    have hp := pow_le256 hl
    have hc : 0 ≤ zs[zs.length - 1 - k]?.getD 0 ∧ zs[zs.length - 1 - k]?.getD 0 ≤ 255 := by
      have hi : zs.length - 1 - k < zs.length := by omega
      rw [List.getElem?_eq_getElem hi]
      exact h _ (List.getElem_mem hi)
    have h7 : (256 : Int) ^ 7 = 72057594037927936 := by decide
    rw [or_step _ _ b0 (by omega) hc.1 hc.2]
    rfl
theorem get_eq (l : List Int) (h : Bytes l) : word_Get.f l = some (getL (l.take 8)) := by
  unfold word_Get.f
  rw [getAll_backs (l.take 8) (h.take 8) (by simp; omega) _ (Nat.le_refl _), Nat.sub_self, List.drop_zero]
theorem getL_append (a b : List Int) : getL (a ++ b) = getL a + 256 ^ a.length * getL b := by
  induction a with
  | nil => simp [getL]
  | cons c a ih =>
    simp only [List.cons_append, getL, ih, List.length_cons, Int.pow_succ, Int.add_mul]
    rw [Int.mul_right_comm]
    omega
theorem getL_putL (n : Int) (m : Nat) : getL (putL n m) = n % 256 ^ m := by
  induction m with
  | zero => simp [putL, getL]
  | succ m ih =>
    rw [putL, getL_append, ih, putL_length]
    simp only [getL, Int.zero_mul, Int.zero_add]
    have hp : (0 : Int) < 256 ^ m := Int.pow_pos (by decide)
    have e1 := Int.mul_ediv_add_emod n (256 ^ m)
    have e2 := Int.mul_ediv_add_emod (n / 256 ^ m) 256
    have e3 := Int.mul_ediv_add_emod n (256 ^ (m + 1))
    have e4 : n / 256 ^ (m + 1) = n / 256 ^ m / 256 := div256 m
    rw [e4, Int.pow_succ, Int.mul_assoc] at e3
    have e5 : 256 ^ m * (n / 256 ^ m) = 256 ^ m * (256 * (n / 256 ^ m / 256)) + 256 ^ m * (n / 256 ^ m % 256) := by rw [← Int.mul_add, e2]
    rw [show (256 : Int) ^ m * 256 = 256 ^ (m + 1) from (Int.pow_succ 256 m).symm] at e3
    omega
end Go.Proofs.Ytliohoalackhiaa.T
namespace Go.Proofs.Ytliohoalackhiaa.T
open Go.RowKit Go.Proofs.YtliohoalackhiaaW.PrintWords Go.Proofs.YtliohoalackhiaaW.PrintLast Go.Proofs.YtliohoalackhiaaW.PrintMore Go.Proofs.Ytliohoalackhiaa.Num
theorem ref_put_l0 (n : Int) (hn : 0 ≤ n) (hn2 : n ≤ 18446744073709551615) (s : Int) (d : Nat) : ∀ (k i : Nat), i + d = asked s → d < k → i ≤ asked s →
    scullerref01_Put.l0 k (n / 256 ^ i) s (putL n i) (i : Int) = some (putL n (asked s)) := by
  have h8 := asked_le s
  induction d with
  | zero =>
    intro k i hi hk _
    obtain ⟨k, rfl⟩ : ∃ j, k = j + 1 := ⟨k - 1, by omega⟩
    obtain rfl : i = asked s := by omega
    simp only [scullerref01_Put.l0]
    by_cases hs : ((asked s : Nat) : Int) < s
    · rw [if_pos hs, if_neg]
      unfold asked mx mn at hs ⊢
      (repeat' split at hs) <;> (repeat' split) <;> omega
    · rw [if_neg hs]
  | succ d ih =>
    intro k i hi hk _
    obtain ⟨k, rfl⟩ : ∃ j, k = j + 1 := ⟨k - 1, by omega⟩
    simp only [scullerref01_Put.l0]
    have hs : (i : Int) < s := by unfold asked mx mn at hi; (repeat' split at hi) <;> omega
    have q0 : 0 ≤ n / 256 ^ i := Int.ediv_nonneg hn (Int.le_of_lt (Int.pow_pos (by decide)))
    have q1 : n / 256 ^ i ≤ n := Int.ediv_le_self _ hn
    rw [if_pos hs, if_pos (by omega), if_pos (by rw [putL_length]; omega), tdivn q0, tmodn q0, u64id (Int.ediv_nonneg q0 (by omega)) (by omega), ← div256, w64 (x := (i : Int) + 1) (by omega) (by omega)]
    rw [show n / 256 ^ i % 256 % 256 = n / 256 ^ i % 256 by omega]
    exact ih k (i + 1) (by omega) (by omega) (by omega)
theorem ref_put_eq (k : Nat) (hk : 8 < k) (n s : Int) (hn : 0 ≤ n) (hn2 : n ≤ 18446744073709551615) : scullerref01_Put.f k n s = some (putL n (asked s)) := by
  unfold scullerref01_Put.f
  have h8 := asked_le s
  have := ref_put_l0 n hn hn2 s (asked s) k 0 (by omega) (by omega) (by omega)
  simpa [putL] using this
end Go.Proofs.Ytliohoalackhiaa.T
namespace Go.Proofs.Ytliohoalackhiaa.T
open Go.RowKit Go.Proofs.YtliohoalackhiaaW.PrintWords Go.Proofs.YtliohoalackhiaaW.PrintLast Go.Proofs.YtliohoalackhiaaW.PrintMore Go.Proofs.Ytliohoalackhiaa.Num Go.Proofs.Ytliohoalackhiaa.CrcN
theorem refstep_nat (n : Nat) (h : n < 4294967296) : scullerref02_Step.f (n : Int) = some ((stepN n : Nat) : Int) := by
  unfold scullerref02_Step.f stepN
  rw [tmodn (by omega), tdivn (by omega)]
  have h2 : (n : Int) / 2 % 4294967296 = ((n / 2 : Nat) : Int) := by omega
  rw [h2]
  rcases two_cases n with e | e
  · rw [if_neg (by omega), e, Nat.mul_zero, Nat.xor_zero]
  · rw [if_pos (by omega), e, Nat.mul_one]
    have := u32_xor_nat (n / 2) poly (by omega) (by decide)
    rw [show (2197175160 : Int) = ((poly : Nat) : Int) from rfl, this]
theorem refmore_l1 (l : List Int) (i : Int) : ∀ (d k j s : Nat), j + d = 8 → s < 4294967296 → scullerref02_More.l1 (k + 1 + d) (s : Int) l i (j : Int) = scullerref02_More.l0 k ((st d s : Nat) : Int) l (wrap64 (i + 1)) := by
  intro d
  induction d with
  | zero =>
    intro k j s hj hs
    rw [Nat.add_zero, scullerref02_More.l1, if_neg (by omega)]; rfl
  | succ d ih =>
    intro k j s hj hs
    rw [show k + 1 + (d + 1) = (k + 1 + d) + 1 by omega, scullerref02_More.l1, if_pos (by omega), refstep_nat s hs, Option.bind_some, w64 (x := (j : Int) + 1) (by omega) (by omega)]
    have := ih k (j + 1) (stepN s) (by omega) (step_lt hs)
    rw [show ((j + 1 : Nat) : Int) = (j : Int) + 1 by omega] at this
    rw [this]; rfl
theorem refmore_l0 (l : List Int) (h : Bytes l) (hl : l.length < 140737488355328) : ∀ (d k i s : Nat), i + d = l.length → 10 * d < k → s < 4294967296 → scullerref02_More.l0 k (s : Int) l (i : Int) = some ((F s (nats (l.drop i)) ^^^ top : Nat) : Int) := by
  intro d
  induction d with
  | zero =>
    intro k i s hi hk hs
    obtain ⟨k, rfl⟩ : ∃ j, k = j + 1 := ⟨k - 1, by omega⟩
    rw [scullerref02_More.l0, if_neg (by omega), List.drop_of_length_le (by omega)]
    have := u32_xor_nat s top hs top_lt
    rw [show (4294967295 : Int) = ((top : Nat) : Int) from rfl, this]; rfl
  | succ d ih =>
    intro k i s hi hk hs
    obtain ⟨k, rfl⟩ : ∃ j, k = j + 1 + 8 + 1 := ⟨k - 10, by omega⟩
    have hil : i < l.length := by omega
    have hx := h l[i] (List.getElem_mem hil)
    have er : rd l (i : Int) = ((l[i].toNat : Nat) : Int) := by
      unfold rd
      rw [Int.toNat_natCast, List.getD_eq_getElem?_getD, List.getElem?_eq_getElem hil, Option.getD_some]; omega
    rw [scullerref02_More.l0, if_pos (by omega), if_pos (by omega), er, show ((l[i].toNat : Nat) : Int) % 4294967296 = ((l[i].toNat : Nat) : Int) by omega, u32_xor_nat s l[i].toNat hs (by omega)]
    have hlt : s ^^^ l[i].toNat < 4294967296 := Nat.xor_lt_two_pow (n := 32) hs (by omega)
    have := refmore_l1 l (i : Int) 8 k 0 (s ^^^ l[i].toNat) (by omega) hlt
    rw [show ((0 : Nat) : Int) = 0 from rfl] at this
    rw [this, w64 (x := (i : Int) + 1) (by omega) (by omega)]
    have := ih k (i + 1) (st 8 (s ^^^ l[i].toNat)) (by omega) (by omega) (st_lt 8 hlt)
    rw [show ((i + 1 : Nat) : Int) = (i : Int) + 1 by omega] at this
    rw [this, List.drop_eq_getElem_cons hil]; rfl
theorem refmore_eq (n : Nat) (hn : n < 4294967296) (l : List Int) (h : Bytes l) (hl : l.length < 140737488355328) (k : Nat) (hk : 10 * l.length < k) : scullerref02_More.f k (n : Int) l = some ((top ^^^ F (top ^^^ n) (nats l) : Nat) : Int) := by
  unfold scullerref02_More.f
  rw [show (4294967295 : Int) = ((top : Nat) : Int) from rfl, u32_xor_nat n top hn top_lt]
  have := refmore_l0 l h hl l.length k 0 (n ^^^ top) (by omega) hk (Nat.xor_lt_two_pow (n := 32) hn top_lt)
  rw [show ((0 : Nat) : Int) = 0 from rfl, List.drop_zero] at this
  rw [this, Nat.xor_comm n top, Nat.xor_comm top (F _ _)]
theorem refsum_eq (l : List Int) (h : Bytes l) (hl : l.length < 140737488355328) (k : Nat) (hk : 10 * l.length < k) : scullerref02_Sum.f k l = some ((sumN (nats l) : Nat) : Int) := by
  unfold scullerref02_Sum.f
  have := refmore_eq 0 (by decide) l h hl k hk
  rw [show ((0 : Nat) : Int) = 0 from rfl] at this
  rw [this, Option.bind_some]; simp [sumN]
end Go.Proofs.Ytliohoalackhiaa.T
namespace Go.Proofs.Ytliohoalackhiaa.T
open Go.RowKit Go.Proofs.YtliohoalackhiaaW.PrintWords Go.Proofs.YtliohoalackhiaaW.PrintLast Go.Proofs.YtliohoalackhiaaW.PrintMore Go.Proofs.Ytliohoalackhiaa.Num
theorem drop_rd' {s : List Int} {i : Nat} (h : i < s.length) : s.drop i = rd s (i : Int) :: s.drop (i + 1) := by
  unfold rd
  rw [Int.toNat_natCast, List.drop_eq_getElem_cons h, List.getD_eq_getElem?_getD, List.getElem?_eq_getElem h]; rfl
end Go.Proofs.Ytliohoalackhiaa.T
namespace Go.Proofs.Ytliohoalackhiaa.T
open Go.RowKit Go.Proofs.YtliohoalackhiaaW.PrintWords Go.Proofs.YtliohoalackhiaaW.PrintLast Go.Proofs.YtliohoalackhiaaW.PrintMore Go.Proofs.Ytliohoalackhiaa.Num
theorem sameInts_l0 (a b : List Int) (hab : a.length = b.length) (hl : a.length < 9223372036854775807) : ∀ (d k i : Nat), i + d = a.length → d < k → scullerref07_SameInts.l0 k a b (i : Int) = some (decide (a.drop i = b.drop i)) := by
  intro d
  induction d with
  | zero =>
    intro k i hi hk
    obtain ⟨k, rfl⟩ : ∃ j, k = j + 1 := ⟨k - 1, by omega⟩
    rw [scullerref07_SameInts.l0, if_neg (by omega), List.drop_of_length_le (by omega), List.drop_of_length_le (by omega)]; simp
  | succ d ih =>
    intro k i hi hk
    obtain ⟨k, rfl⟩ : ∃ j, k = j + 1 := ⟨k - 1, by omega⟩
    have := ih k (i + 1) (by omega) (by omega)
    rw [show ((i + 1 : Nat) : Int) = (i : Int) + 1 by omega] at this
    rw [scullerref07_SameInts.l0, if_pos (by omega), drop_rd' (s := a) (by omega), drop_rd' (s := b) (by omega)]
    (repeat rw [if_pos (by omega)])
    by_cases he : rd a (i : Int) = rd b (i : Int)
    · simp only [he, if_true]
      rw [w64 (x := (i : Int) + 1) (by omega) (by omega), this]
      simp
    · simp only [he, if_false]
      simp [he]
theorem sameInts_eq (a b : List Int) (hl : a.length < 9223372036854775807) (k : Nat) (hk : a.length < k) : scullerref07_SameInts.f k a b = some (decide (a = b)) := by
  unfold scullerref07_SameInts.f
  by_cases h : (a.length : Int) = (b.length : Int)
  · rw [if_pos h]
    have := sameInts_l0 a b (by omega) hl a.length k 0 (by omega) (by omega)
    simpa using this
  · rw [if_neg h, decide_eq_false]
    rintro rfl; exact h rfl
end Go.Proofs.Ytliohoalackhiaa.T
namespace Go.Proofs.Ytliohoalackhiaa.T
open Go.RowKit Go.Proofs.YtliohoalackhiaaW.PrintWords Go.Proofs.YtliohoalackhiaaW.PrintLast Go.Proofs.YtliohoalackhiaaW.PrintMore Go.Proofs.Ytliohoalackhiaa.Num Go.Proofs.Ytliohoalackhiaa.CrcN
def twos : List Int → List Int
  | [] => []
  | x :: t => putL x 2 ++ twos t
theorem twos_append (a b : List Int) : twos (a ++ b) = twos a ++ twos b := by
  induction a with
  | nil => rfl
  | cons x t ih => simp only [List.cons_append, twos, ih, List.append_assoc]
theorem twos_length (s : List Int) : (twos s).length = 2 * s.length := by
  induction s with
  | nil => rfl
  | cons x t ih => simp only [twos, List.length_append, putL_length, List.length_cons, ih]; omega
theorem twos_bytes (s : List Int) : Bytes (twos s) := by
  induction s with
  | nil => exact fun x hx => by cases hx
  | cons x t ih => exact (putL_bytes x 2).append ih
end Go.Proofs.Ytliohoalackhiaa.T
namespace Go.Proofs.Ytliohoalackhiaa.T
open Go.RowKit Go.Proofs.YtliohoalackhiaaW.PrintWords Go.Proofs.YtliohoalackhiaaW.PrintLast Go.Proofs.YtliohoalackhiaaW.PrintMore Go.Proofs.Ytliohoalackhiaa.Num Go.Proofs.Ytliohoalackhiaa.CrcN
def sealed (b : List Int) : List Int := b ++ ints (four (sumN (nats b)))
theorem four_bytes (t : Nat) : Bytes (ints (four t)) := ints_bytes (fun x hx => by simp [four] at hx; omega)
theorem four_length (t : Nat) : (ints (four t)).length = 4 := by simp [four, ints]
theorem sealed_bytes {b : List Int} (h : Bytes b) : Bytes (sealed b) := h.append (four_bytes _)
theorem sealed_length (b : List Int) : (sealed b).length = b.length + 4 := by unfold sealed; rw [List.length_append, four_length]
theorem sealed_take (b : List Int) : (sealed b).take ((sealed b).length - 4) = b := by
  rw [sealed_length]; unfold sealed; rw [show b.length + 4 - 4 = b.length by omega, List.take_left]
theorem seal_sealed (k : Nat) (hk : 8 < k) (l : List Int) (h : Bytes l) (hl : l.length < 140737488355320) : crc_Seal.f k l = some (sealed l) := seal_eq k hk l h hl
theorem right_sealed (k : Nat) (hk : 8 < k) (b : List Int) (h : Bytes b) (hl : b.length < 140737488355000) : crc_Right.f k (sealed b) = some true := by
  have ht := sumN_lt (nats b) (nats_lt h)
  have := right_four k hk b h (by omega) (sumN (nats b)) ht
  unfold sealed
  rw [this]; simp
end Go.Proofs.Ytliohoalackhiaa.T
