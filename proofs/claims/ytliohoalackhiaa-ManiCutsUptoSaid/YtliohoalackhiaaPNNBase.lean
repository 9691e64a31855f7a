/- Strings made of bytes are the same just if the bytes are. Conditions: those in each theorem. -/
/- What word.Put computes: the lowest bytes of a number, the least first. Conditions: none. -/
/- What word.Put lays are bytes. Conditions: none. -/
/- What crc.Sum computes, in plain numbers: for every row of bytes. -/
/- What word.Get computes: the bytes of a number, the least first; the number of the first eight bytes. Conditions: those of a uint64, and of bytes. -/
/- What the document's Put computes: the bytes of a number, the least first. Conditions: those of a uint64. -/
/- What the document's Step, More and Sum compute, in plain numbers: for every row of bytes. -/
/- What slices.Equal of whole numbers, tells: whether two rows are the same. Conditions: none. -/
/- What the document's SameInts tells: whether two rows are the same. Conditions: none. -/
/- The bytes of sizes, two each. Conditions: none. -/
import Derived.Test.YtliohoalackhiaaPNum
import Derived.Test.YtliohoalackhiaaPCrcN
import Derived.Test.YtliohoalackhiaaPNx0
import Derived.Test.YtliohoalackhiaaPW
import Derived.Test.YtliohoalackhiaaPNx3
import Derived.Test.YtliohoalackhiaaPNgCrc
import Derived.Laws.BitsAllLaws
import Derived.Test.YtliohoalackhiaaPNgGet
import Derived.Test.YtliohoalackhiaaPNx9
import Derived.Test.YtliohoalackhiaaPNx10
import Derived.Test.YtliohoalackhiaaPNx6
import Derived.Test.YtliohoalackhiaaPNx15
namespace Go.Proofs.Ytliohoalackhiaa.N
open Go.RowKit Go.Proofs.YtliohoalackhiaaW.PrintWords Go.Proofs.YtliohoalackhiaaW.PrintLast Go.Proofs.YtliohoalackhiaaW.PrintMore Go.Proofs.Ytliohoalackhiaa.Num Go.Proofs.Ytliohoalackhiaa.CrcN
def Bytes (l : List Int) : Prop := ∀ x ∈ l, 0 ≤ x ∧ x ≤ 255
theorem Bytes.of_wf {l : List Int} (h : ∀ x ∈ l, (Lit.int .u8 x).wf = true) : Bytes l := fun x hx => bounds_u8 (h x hx)
theorem Bytes.take {l : List Int} (h : Bytes l) (n : Nat) : Bytes (l.take n) := fun x hx => h x (List.mem_of_mem_take hx)
theorem Bytes.drop {l : List Int} (h : Bytes l) (n : Nat) : Bytes (l.drop n) := fun x hx => h x (List.mem_of_mem_drop hx)
theorem Bytes.append {a b : List Int} (ha : Bytes a) (hb : Bytes b) : Bytes (a ++ b) := fun x hx => (List.mem_append.1 hx).elim (ha x) (hb x)
end Go.Proofs.Ytliohoalackhiaa.N
namespace Go.Proofs.Ytliohoalackhiaa.N
open Go.RowKit Go.Proofs.YtliohoalackhiaaW.PrintWords Go.Proofs.YtliohoalackhiaaW.PrintLast Go.Proofs.YtliohoalackhiaaW.PrintMore Go.Proofs.Ytliohoalackhiaa.Num
/-- the lowest m bytes of a number, the least first -/
def putL (n : Int) : Nat → List Int
  | 0 => []
  | m + 1 => putL n m ++ [n / 256 ^ m % 256]
theorem putL_length (n : Int) (m : Nat) : (putL n m).length = m := by
  induction m with
  | zero => rfl
  | succ m ih => simp [putL, ih]
/-- how many bytes are asked for -/
def asked (s : Int) : Nat := (mx 0 (mn s 8)).toNat
theorem asked_le (s : Int) : asked s ≤ 8 := by unfold asked mx mn; (repeat' split) <;> omega
theorem pow256 (m : Nat) : (256 : Int) ^ m = 2 ^ (8 * m) := by rw [Int.pow_mul]; rfl
theorem shr8 (n : Int) (i : Nat) (h : i ≤ 8) : shr .u64 n (wrap64 (8 * (i : Int))) = n / 256 ^ i := by
  rw [w64 (by omega) (by omega)]
  unfold shr
  have : min (8 * (i : Int)).toNat IntKind.u64.bits = 8 * i := by simp [IntKind.bits]; omega
  rw [this, pow256]
theorem set_mid (xs ys : List Int) (a v : Int) : (xs ++ a :: ys).set xs.length v = xs ++ v :: ys := by
  induction xs with
  | nil => rfl
  | cons x xs ih => simp [ih]
theorem put_l0 (n : Int) (m : Nat) (hm : m ≤ 8) (d : Nat) : ∀ (k i : Nat), i + d = m → d < k → word_Put.l0 k n (putL n i ++ List.replicate d 0) (m : Int) (i : Int) = some (putL n m) := by
  induction d with
  | zero =>
    intro k i hi hk
    obtain ⟨k, rfl⟩ : ∃ j, k = j + 1 := ⟨k - 1, by omega⟩
    obtain rfl : i = m := by omega
    simp only [word_Put.l0]
    rw [if_neg (by omega)]
    simp
  | succ d ih =>
    intro k i hi hk
    obtain ⟨k, rfl⟩ : ∃ j, k = j + 1 := ⟨k - 1, by omega⟩
    simp only [word_Put.l0]
    rw [if_pos (by omega), shr8 n i (by omega), w64 (x := 8 * (i : Int)) (by omega) (by omega), if_pos (by omega), if_pos (by omega), if_pos (by simp [putL_length]; omega)]
    rw [w64 (x := (i : Int) + 1) (by omega) (by omega)]
    have e : (putL n i ++ List.replicate (d + 1) 0).set (i : Int).toNat (n / 256 ^ i % 256) = putL n (i + 1) ++ List.replicate d 0 := by
      have := set_mid (putL n i) (List.replicate d 0) 0 (n / 256 ^ i % 256)
      rw [putL_length] at this
      rw [Int.toNat_natCast, List.replicate_succ, this]
      simp [putL]
    rw [e]
    exact ih k (i + 1) (by omega) (by omega)
theorem put_eq (k : Nat) (hk : 8 < k) (n s : Int) : word_Put.f k n s = some (putL n (asked s)) := by
  unfold word_Put.f
  have h0 : 0 ≤ mx 0 (mn s 8) := by unfold mx; split <;> omega
  have h8 := asked_le s
  rw [if_pos h0, if_pos (by unfold asked at h8; omega)]
  have := put_l0 n (asked s) h8 (asked s) k 0 (by omega) (by omega)
  simp only [Option.bind_some, putL, List.nil_append] at this ⊢
  unfold asked at this ⊢
  simpa using this
end Go.Proofs.Ytliohoalackhiaa.N
namespace Go.Proofs.Ytliohoalackhiaa.N
open Go.RowKit Go.Proofs.YtliohoalackhiaaW.PrintWords Go.Proofs.YtliohoalackhiaaW.PrintLast Go.Proofs.YtliohoalackhiaaW.PrintMore Go.Proofs.Ytliohoalackhiaa.Num
theorem putL_bytes (n : Int) (m : Nat) : Bytes (putL n m) := by
  induction m with
  | zero => intro x hx; simp [putL] at hx
  | succ m ih =>
    intro x hx
    simp only [putL, List.mem_append, List.mem_singleton] at hx
    rcases hx with hx | rfl
    · exact ih x hx
    · omega
end Go.Proofs.Ytliohoalackhiaa.N
namespace Go.Proofs.Ytliohoalackhiaa.N
open Go.RowKit Go.Proofs.YtliohoalackhiaaW.PrintWords Go.Proofs.YtliohoalackhiaaW.PrintLast Go.Proofs.YtliohoalackhiaaW.PrintMore Go.Proofs.Ytliohoalackhiaa.Num Go.Proofs.Ytliohoalackhiaa.CrcN
def ints (l : List Nat) : List Int := l.map fun (n : Nat) => (n : Int)
def nats (l : List Int) : List Nat := l.map Int.toNat
theorem ints_nats {l : List Int} (h : Bytes l) : ints (nats l) = l := by
  unfold ints nats
  rw [List.map_map]
  conv => rhs; rw [← List.map_id l]
  apply List.map_congr_left
  intro x hx
  have := h x hx
  simp [Function.comp]; omega
theorem nats_lt {l : List Int} (h : Bytes l) : ∀ x ∈ nats l, x < 256 := by
  intro x hx
  obtain ⟨y, hy, rfl⟩ := List.mem_map.1 hx
  have := h y hy
  omega
theorem ints_append (a b : List Nat) : ints (a ++ b) = ints a ++ ints b := List.map_append
theorem step_nat (n : Nat) (h : n < 4294967296) : stepI (n : Int) = (stepN n : Nat) := by
  unfold stepI stepN
  have h1 : Go.bits .and .u32 (n : Int) 1 = ((n % 2 : Nat) : Int) := by
    have := u32_and_nat n 1 h (by decide)
    rw [show ((1 : Nat) : Int) = 1 from rfl] at this
    rw [this, Nat.and_one_is_mod]
  rw [h1]
  have h2 : (2197175160 * ((n % 2 : Nat) : Int)) % 4294967296 = ((poly * (n % 2) : Nat) : Int) := by
    unfold poly
    rcases two_cases n with e | e <;> rw [e] <;> rfl
  have h3 : poly * (n % 2) < 4294967296 := by
    unfold poly
    rcases two_cases n with e | e <;> rw [e] <;> decide
  rw [h2, show (n : Int) / 2 = ((n / 2 : Nat) : Int) from rfl, u32_xor_nat _ _ (by omega) h3]
theorem st_last (k x : Nat) : st (k + 1) x = stepN (st k x) := by rw [Nat.add_comm, st_add]; rfl
theorem eight_nat (n : Nat) (h : n < 4294967296) (k : Nat) : eightI (n : Int) k = (st k n : Nat) := by
  induction k with
  | zero => rfl
  | succ k ih => rw [eightI, ih, step_nat _ (st_lt k h), st_last]
theorem tab_nat (i : Nat) (h : i < 256) : tabI i = (st 8 i : Nat) := by
  unfold tabI
  have : IntKind.u32.wrap (i : Int) = i := by simp [IntKind.wrap, IntKind.bits, IntKind.signed]; omega
  rw [this, eight_nat i (by omega)]
theorem join8 (n : Nat) : n = n % 256 ^^^ 2 ^ 8 * (n / 256) := by
  have hl : n % 256 < 2 ^ 8 := Nat.mod_lt _ (by omega)
  have h1 := Nat.two_pow_add_eq_or_of_lt hl (n / 256)
  have h2 : n % 256 ^^^ 2 ^ 8 * (n / 256) = 2 ^ 8 * (n / 256) ||| n % 256 := by
    apply Nat.eq_of_testBit_eq
    intro k
    rw [Nat.testBit_or, Nat.testBit_xor]
    by_cases hk : k < 8
    · rw [Nat.testBit_two_pow_mul]; simp [show ¬ 8 ≤ k by omega]
    · rw [Nat.testBit_lt_two_pow (x := n % 256) (i := k) (Nat.lt_of_lt_of_le hl (Nat.pow_le_pow_right (show 2 > 0 by decide) (show 8 ≤ k by omega)))]; simp
  rw [h2, ← h1]; omega
theorem byte_nat (n c : Nat) (hn : n < 4294967296) (hc : c < 256) : mstep tabI (n : Int) (c : Int) = (byteN n c : Nat) := by
  unfold mstep byteN
  have h1 : Go.bits .xor .u8 ((n : Int) % 256) (c : Int) = ((n % 256 ^^^ c : Nat) : Int) := u8_xor_nat (n % 256) c (by omega) hc
  have h2 : n % 256 ^^^ c < 256 := Nat.xor_lt_two_pow (n := 8) (by omega) hc
  rw [h1, Int.toNat_natCast, tab_nat _ h2, show (n : Int) / 256 = ((n / 256 : Nat) : Int) from rfl, u32_xor_nat _ _ (by omega) (st_lt 8 (by omega))]
  have e : n ^^^ c = (n % 256 ^^^ c) ^^^ 2 ^ 8 * (n / 256) := by
    conv => lhs; rw [join8 n]
    rw [Nat.xor_assoc, Nat.xor_comm (2 ^ 8 * _), ← Nat.xor_assoc]
  rw [e, xor_shift, Nat.xor_comm]
theorem fold_nat (l : List Nat) (hl : ∀ x ∈ l, x < 256) : ∀ (s : Nat), s < 4294967296 → (ints l).foldl (mstep tabI) (s : Int) = (F s l : Nat) := by
  induction l with
  | nil => intro s _; rfl
  | cons c l ih =>
    intro s hs
    have hc := hl c List.mem_cons_self
    show List.foldl (mstep tabI) (mstep tabI (s : Int) (c : Int)) (ints l) = _
    rw [byte_nat s c hs hc, ih (fun x hx => hl x (List.mem_cons_of_mem _ hx)) _ (byteN_lt hs hc), F_cons]
theorem compl_nat (n : Nat) (h : n < 4294967296) : compl (n : Int) = (top ^^^ n : Nat) := by
  unfold compl
  have : IntKind.u32.max = ((top : Nat) : Int) := by decide
  rw [this, u32_xor_nat _ _ top_lt h]
theorem more_nat (n : Nat) (hn : n < 4294967296) (l : List Nat) (hl : ∀ x ∈ l, x < 256) : moreI tabI (n : Int) (ints l) = (top ^^^ F (top ^^^ n) l : Nat) := by
  have h1 : top ^^^ n < 4294967296 := Nat.xor_lt_two_pow (n := 32) top_lt hn
  unfold moreI
  rw [compl_nat n hn, fold_nat l hl _ h1, compl_nat _ (F_lt h1 l hl)]
theorem sum_eq (l : List Int) (h : Bytes l) : crc_Sum.f l = some ((sumN (nats l) : Nat) : Int) := by
  unfold crc_Sum.f
  have := more_nat 0 (by decide) (nats l) (nats_lt h)
  rw [ints_nats h] at this
  rw [show (0 : Int) = ((0 : Nat) : Int) from rfl, this]
  simp [sumN]
end Go.Proofs.Ytliohoalackhiaa.N
namespace Go.Proofs.Ytliohoalackhiaa.N
open Go.RowKit Go.Proofs.YtliohoalackhiaaW.PrintWords Go.Proofs.YtliohoalackhiaaW.PrintLast Go.Proofs.YtliohoalackhiaaW.PrintMore Go.Proofs.Ytliohoalackhiaa.Num
theorem div256 {n : Int} (i : Nat) : n / 256 ^ (i + 1) = n / 256 ^ i / 256 := by
  rw [Int.pow_succ, Int.ediv_ediv_of_nonneg]
  exact Int.le_of_lt (Int.pow_pos (by decide))
theorem Bytes.cons {c : Int} {l : List Int} (h : Bytes (c :: l)) : (0 ≤ c ∧ c ≤ 255) ∧ Bytes l := ⟨h c List.mem_cons_self, fun x hx => h x (List.mem_cons_of_mem _ hx)⟩
end Go.Proofs.Ytliohoalackhiaa.N
namespace Go.Proofs.Ytliohoalackhiaa.N
open Go.RowKit Go.Proofs.YtliohoalackhiaaW.PrintWords Go.Proofs.YtliohoalackhiaaW.PrintLast Go.Proofs.YtliohoalackhiaaW.PrintMore Go.Proofs.Ytliohoalackhiaa.Num
theorem ref_put_l0 (n : Int) (hn : 0 ≤ n) (hn2 : n ≤ 18446744073709551615) (s : Int) (d : Nat) : ∀ (k i : Nat), i + d = asked s → d < k → i ≤ asked s →
    scullerref01_Put.l0 k (n / 256 ^ i) s (putL n i) (i : Int) = some (putL n (asked s)) := by
  have h8 := asked_le s
  induction d with
  | zero =>
    intro k i hi hk _
    obtain ⟨k, rfl⟩ : ∃ j, k = j + 1 := ⟨k - 1, by omega⟩
    obtain rfl : i = asked s := by omega
    simp only [scullerref01_Put.l0]
    by_cases hs : ((asked s : Nat) : Int) < s
    · rw [if_pos hs, if_neg]
      unfold asked mx mn at hs ⊢
      (repeat' split at hs) <;> (repeat' split) <;> omega
    · rw [if_neg hs]
  | succ d ih =>
    intro k i hi hk _
    obtain ⟨k, rfl⟩ : ∃ j, k = j + 1 := ⟨k - 1, by omega⟩
    simp only [scullerref01_Put.l0]
    have hs : (i : Int) < s := by unfold asked mx mn at hi; (repeat' split at hi) <;> omega
    have q0 : 0 ≤ n / 256 ^ i := Int.ediv_nonneg hn (Int.le_of_lt (Int.pow_pos (by decide)))
    have q1 : n / 256 ^ i ≤ n := Int.ediv_le_self _ hn
    rw [if_pos hs, if_pos (by omega), if_pos (by rw [putL_length]; omega), tdivn q0, tmodn q0, u64id (Int.ediv_nonneg q0 (by omega)) (by omega), ← div256, w64 (x := (i : Int) + 1) (by omega) (by omega)]
    rw [show n / 256 ^ i % 256 % 256 = n / 256 ^ i % 256 by omega]
    exact ih k (i + 1) (by omega) (by omega) (by omega)
theorem ref_put_eq (k : Nat) (hk : 8 < k) (n s : Int) (hn : 0 ≤ n) (hn2 : n ≤ 18446744073709551615) : scullerref01_Put.f k n s = some (putL n (asked s)) := by
  unfold scullerref01_Put.f
  have h8 := asked_le s
  have := ref_put_l0 n hn hn2 s (asked s) k 0 (by omega) (by omega) (by omega)
  simpa [putL] using this
end Go.Proofs.Ytliohoalackhiaa.N
namespace Go.Proofs.Ytliohoalackhiaa.N
open Go.RowKit Go.Proofs.YtliohoalackhiaaW.PrintWords Go.Proofs.YtliohoalackhiaaW.PrintLast Go.Proofs.YtliohoalackhiaaW.PrintMore Go.Proofs.Ytliohoalackhiaa.Num Go.Proofs.Ytliohoalackhiaa.CrcN
theorem refstep_nat (n : Nat) (h : n < 4294967296) : scullerref02_Step.f (n : Int) = some ((stepN n : Nat) : Int) := by
  unfold scullerref02_Step.f stepN
  rw [tmodn (by omega), tdivn (by omega)]
  have h2 : (n : Int) / 2 % 4294967296 = ((n / 2 : Nat) : Int) := by omega
  rw [h2]
  rcases two_cases n with e | e
  · rw [if_neg (by omega), e, Nat.mul_zero, Nat.xor_zero]
  · rw [if_pos (by omega), e, Nat.mul_one]
    have := u32_xor_nat (n / 2) poly (by omega) (by decide)
    rw [show (2197175160 : Int) = ((poly : Nat) : Int) from rfl, this]
theorem refmore_l1 (l : List Int) (i : Int) : ∀ (d k j s : Nat), j + d = 8 → s < 4294967296 → scullerref02_More.l1 (k + 1 + d) (s : Int) l i (j : Int) = scullerref02_More.l0 k ((st d s : Nat) : Int) l (wrap64 (i + 1)) := by
  intro d
  induction d with
  | zero =>
    intro k j s hj hs
    rw [Nat.add_zero, scullerref02_More.l1, if_neg (by omega)]; rfl
  | succ d ih =>
    intro k j s hj hs
    rw [show k + 1 + (d + 1) = (k + 1 + d) + 1 by omega, scullerref02_More.l1, if_pos (by omega), refstep_nat s hs, Option.bind_some, w64 (x := (j : Int) + 1) (by omega) (by omega)]
    have := ih k (j + 1) (stepN s) (by omega) (step_lt hs)
    rw [show ((j + 1 : Nat) : Int) = (j : Int) + 1 by omega] at this
    rw [this]; rfl
theorem refmore_l0 (l : List Int) (h : Bytes l) (hl : l.length < 140737488355328) : ∀ (d k i s : Nat), i + d = l.length → 10 * d < k → s < 4294967296 → scullerref02_More.l0 k (s : Int) l (i : Int) = some ((F s (nats (l.drop i)) ^^^ top : Nat) : Int) := by
  intro d
  induction d with
  | zero =>
    intro k i s hi hk hs
    obtain ⟨k, rfl⟩ : ∃ j, k = j + 1 := ⟨k - 1, by omega⟩
    rw [scullerref02_More.l0, if_neg (by omega), List.drop_of_length_le (by omega)]
    have := u32_xor_nat s top hs top_lt
    rw [show (4294967295 : Int) = ((top : Nat) : Int) from rfl, this]; rfl
  | succ d ih =>
    intro k i s hi hk hs
    obtain ⟨k, rfl⟩ : ∃ j, k = j + 1 + 8 + 1 := ⟨k - 10, by omega⟩
    have hil : i < l.length := by omega
    have hx := h l[i] (List.getElem_mem hil)
    have er : rd l (i : Int) = ((l[i].toNat : Nat) : Int) := by
      unfold rd
      rw [Int.toNat_natCast, List.getD_eq_getElem?_getD, List.getElem?_eq_getElem hil, Option.getD_some]; omega
    rw [scullerref02_More.l0, if_pos (by omega), if_pos (by omega), er, show ((l[i].toNat : Nat) : Int) % 4294967296 = ((l[i].toNat : Nat) : Int) by omega, u32_xor_nat s l[i].toNat hs (by omega)]
    have hlt : s ^^^ l[i].toNat < 4294967296 := Nat.xor_lt_two_pow (n := 32) hs (by omega)
    have := refmore_l1 l (i : Int) 8 k 0 (s ^^^ l[i].toNat) (by omega) hlt
    rw [show ((0 : Nat) : Int) = 0 from rfl] at this
    rw [this, w64 (x := (i : Int) + 1) (by omega) (by omega)]
    have := ih k (i + 1) (st 8 (s ^^^ l[i].toNat)) (by omega) (by omega) (st_lt 8 hlt)
    rw [show ((i + 1 : Nat) : Int) = (i : Int) + 1 by omega] at this
    rw [this, List.drop_eq_getElem_cons hil]; rfl
theorem refmore_eq (n : Nat) (hn : n < 4294967296) (l : List Int) (h : Bytes l) (hl : l.length < 140737488355328) (k : Nat) (hk : 10 * l.length < k) : scullerref02_More.f k (n : Int) l = some ((top ^^^ F (top ^^^ n) (nats l) : Nat) : Int) := by
  unfold scullerref02_More.f
  rw [show (4294967295 : Int) = ((top : Nat) : Int) from rfl, u32_xor_nat n top hn top_lt]
  have := refmore_l0 l h hl l.length k 0 (n ^^^ top) (by omega) hk (Nat.xor_lt_two_pow (n := 32) hn top_lt)
  rw [show ((0 : Nat) : Int) = 0 from rfl, List.drop_zero] at this
  rw [this, Nat.xor_comm n top, Nat.xor_comm top (F _ _)]
theorem refsum_eq (l : List Int) (h : Bytes l) (hl : l.length < 140737488355328) (k : Nat) (hk : 10 * l.length < k) : scullerref02_Sum.f k l = some ((sumN (nats l) : Nat) : Int) := by
  unfold scullerref02_Sum.f
  have := refmore_eq 0 (by decide) l h hl k hk
  rw [show ((0 : Nat) : Int) = 0 from rfl] at this
  rw [this, Option.bind_some]; simp [sumN]
end Go.Proofs.Ytliohoalackhiaa.N
namespace Go.Proofs.Ytliohoalackhiaa.N
open Go.RowKit Go.Proofs.YtliohoalackhiaaW.PrintWords Go.Proofs.YtliohoalackhiaaW.PrintLast Go.Proofs.YtliohoalackhiaaW.PrintMore Go.Proofs.Ytliohoalackhiaa.Num
theorem drop_rd' {s : List Int} {i : Nat} (h : i < s.length) : s.drop i = rd s (i : Int) :: s.drop (i + 1) := by
  unfold rd
  rw [Int.toNat_natCast, List.drop_eq_getElem_cons h, List.getD_eq_getElem?_getD, List.getElem?_eq_getElem h]; rfl
theorem equalInts_l0 (a b : List Int) (hab : a.length = b.length) (hl : a.length < 9223372036854775807) : ∀ (d k i : Nat), i + d = a.length → d < k → slices_Equal_int_int.l0 k a b (a.length : Int) (i : Int) = some (decide (a.drop i = b.drop i)) := by
  intro d
  induction d with
  | zero =>
    intro k i hi hk
    obtain ⟨k, rfl⟩ : ∃ j, k = j + 1 := ⟨k - 1, by omega⟩
    rw [slices_Equal_int_int.l0, if_neg (by omega), List.drop_of_length_le (by omega), List.drop_of_length_le (by omega)]; simp
  | succ d ih =>
    intro k i hi hk
    obtain ⟨k, rfl⟩ : ∃ j, k = j + 1 := ⟨k - 1, by omega⟩
    have := ih k (i + 1) (by omega) (by omega)
    rw [show ((i + 1 : Nat) : Int) = (i : Int) + 1 by omega] at this
    rw [slices_Equal_int_int.l0, if_pos (by omega), drop_rd' (s := a) (by omega), drop_rd' (s := b) (by omega)]
    (repeat rw [if_pos (by omega)])
    by_cases he : rd a (i : Int) = rd b (i : Int)
    · simp only [he, if_true]
      rw [w64 (x := (i : Int) + 1) (by omega) (by omega), this]
      simp
    · simp only [he, if_false]
      simp [he]
theorem equalInts_eq (a b : List Int) (hl : a.length < 9223372036854775807) (k : Nat) (hk : a.length < k) : slices_Equal_int_int.f k a b = some (decide (a = b)) := by
  unfold slices_Equal_int_int.f
  by_cases h : (a.length : Int) = (b.length : Int)
  · rw [if_pos h]
    have := equalInts_l0 a b (by omega) hl a.length k 0 (by omega) (by omega)
    simpa using this
  · rw [if_neg h, decide_eq_false]
    rintro rfl; exact h rfl
end Go.Proofs.Ytliohoalackhiaa.N
namespace Go.Proofs.Ytliohoalackhiaa.N
open Go.RowKit Go.Proofs.YtliohoalackhiaaW.PrintWords Go.Proofs.YtliohoalackhiaaW.PrintLast Go.Proofs.YtliohoalackhiaaW.PrintMore Go.Proofs.Ytliohoalackhiaa.Num
theorem sameInts_l0 (a b : List Int) (hab : a.length = b.length) (hl : a.length < 9223372036854775807) : ∀ (d k i : Nat), i + d = a.length → d < k → scullerref07_SameInts.l0 k a b (i : Int) = some (decide (a.drop i = b.drop i)) := by
  intro d
  induction d with
  | zero =>
    intro k i hi hk
    obtain ⟨k, rfl⟩ : ∃ j, k = j + 1 := ⟨k - 1, by omega⟩
    rw [scullerref07_SameInts.l0, if_neg (by omega), List.drop_of_length_le (by omega), List.drop_of_length_le (by omega)]; simp
  | succ d ih =>
    intro k i hi hk
    obtain ⟨k, rfl⟩ : ∃ j, k = j + 1 := ⟨k - 1, by omega⟩
    have := ih k (i + 1) (by omega) (by omega)
    rw [show ((i + 1 : Nat) : Int) = (i : Int) + 1 by omega] at this
    rw [scullerref07_SameInts.l0, if_pos (by omega), drop_rd' (s := a) (by omega), drop_rd' (s := b) (by omega)]
    (repeat rw [if_pos (by omega)])
    by_cases he : rd a (i : Int) = rd b (i : Int)
    · simp only [he, if_true]
      rw [w64 (x := (i : Int) + 1) (by omega) (by omega), this]
      simp
    · simp only [he, if_false]
      simp [he]
theorem sameInts_eq (a b : List Int) (hl : a.length < 9223372036854775807) (k : Nat) (hk : a.length < k) : scullerref07_SameInts.f k a b = some (decide (a = b)) := by
  unfold scullerref07_SameInts.f
  by_cases h : (a.length : Int) = (b.length : Int)
  · rw [if_pos h]
    have := sameInts_l0 a b (by omega) hl a.length k 0 (by omega) (by omega)
    simpa using this
  · rw [if_neg h, decide_eq_false]
    rintro rfl; exact h rfl
end Go.Proofs.Ytliohoalackhiaa.N
namespace Go.Proofs.Ytliohoalackhiaa.N
open Go.RowKit Go.Proofs.YtliohoalackhiaaW.PrintWords Go.Proofs.YtliohoalackhiaaW.PrintLast Go.Proofs.YtliohoalackhiaaW.PrintMore Go.Proofs.Ytliohoalackhiaa.Num Go.Proofs.Ytliohoalackhiaa.CrcN
/-- the bytes of sizes, two each -/
def twos : List Int → List Int
  | [] => []
  | x :: t => putL x 2 ++ twos t
theorem twos_append (a b : List Int) : twos (a ++ b) = twos a ++ twos b := by
  induction a with
  | nil => rfl
  | cons x t ih => simp only [List.cons_append, twos, ih, List.append_assoc]
theorem twos_length (s : List Int) : (twos s).length = 2 * s.length := by
  induction s with
  | nil => rfl
  | cons x t ih => simp only [twos, List.length_append, putL_length, List.length_cons, ih]; omega
theorem twos_bytes (s : List Int) : Bytes (twos s) := by
  induction s with
  | nil => exact fun x hx => by cases hx
  | cons x t ih => exact (putL_bytes x 2).append ih
end Go.Proofs.Ytliohoalackhiaa.N
