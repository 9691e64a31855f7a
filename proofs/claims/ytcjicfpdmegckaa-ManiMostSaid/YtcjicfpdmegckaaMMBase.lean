/- Strings made of bytes are the same just if the bytes are. Conditions: those in each theorem. -/
/- What word.Put computes: the lowest bytes of a number, the least first. Conditions: none. -/
/- What word.Put lays are bytes. Conditions: none. -/
/- What crc.Sum computes, in plain numbers: for every row of bytes. -/
/- What slices.Equal of whole numbers, tells: whether two rows are the same. Conditions: none. -/
/- The bytes of sizes, two each. Conditions: none. -/
/- What arena.Fits computes: whether so many segments may have so many words. Conditions: none. -/
/- What mani.Right, mani.Words and mani.Chunks compute. Conditions: those in each theorem. -/
/- What the document's Fits computes. Conditions: those in each theorem. -/
/- What the document's Words of manifests computes. Conditions: those in each theorem. -/
/- Words as bytes; how long an arena's segments are. Conditions: none. -/
/- What Sizes, Right and Bytes of arenas compute. Conditions: those in each theorem. -/
/- Of what a manifest's sum is. Conditions: none. -/
/- What mani.Of, Pages, Size, Same and Matches compute; the chapter's example holds. Conditions: those in each theorem. -/
import Derived.Test.YtcjicfpdmegckaaCrcN
import Derived.Test.YtcjicfpdmegckaaMx0
import Derived.Test.YtcjicfpdmegckaaWMore
import Derived.Test.YtcjicfpdmegckaaMx2
import Derived.Test.YtcjicfpdmegckaaNum
import Derived.Test.YtcjicfpdmegckaaMgCrc
import Derived.Laws.BitsAllLaws
import Derived.Test.YtcjicfpdmegckaaMx8
import Derived.Test.YtcjicfpdmegckaaMx1
import Derived.Test.YtcjicfpdmegckaaMgABytes
import Derived.Test.YtcjicfpdmegckaaMgManiOf
import Derived.Test.YtcjicfpdmegckaaMx7
import Derived.Test.YtcjicfpdmegckaaMx6
import Derived.Test.YtcjicfpdmegckaaMx5
namespace Go.Proofs.Ytcjicfpdmegckaa.M
open Go.RowKit Go.Proofs.YtcjicfpdmegckaaW.PrintWords Go.Proofs.YtcjicfpdmegckaaW.PrintLast Go.Proofs.YtcjicfpdmegckaaW.PrintMore Go.Proofs.Ytcjicfpdmegckaa.Num Go.Proofs.Ytcjicfpdmegckaa.CrcN

def Bytes (l : List Int) : Prop := ∀ x ∈ l, 0 ≤ x ∧ x ≤ 255
theorem Bytes.of_wf {l : List Int} (h : ∀ x ∈ l, (Lit.int .u8 x).wf = true) : Bytes l := fun x hx => bounds_u8 (h x hx)
theorem Bytes.take {l : List Int} (h : Bytes l) (n : Nat) : Bytes (l.take n) := fun x hx => h x (List.mem_of_mem_take hx)
theorem Bytes.drop {l : List Int} (h : Bytes l) (n : Nat) : Bytes (l.drop n) := fun x hx => h x (List.mem_of_mem_drop hx)
theorem Bytes.append {a b : List Int} (ha : Bytes a) (hb : Bytes b) : Bytes (a ++ b) := fun x hx => (List.mem_append.1 hx).elim (ha x) (hb x)
/-- strings are the same just if the bytes are -/
theorem str_eq {a b : List Int} (ha : Bytes a) (hb : Bytes b) : ((strOfNums a).toList == (strOfNums b).toList) = decide (a = b) := by
  by_cases h : a = b
  · subst h; simp
  · rw [decide_eq_false h]
    apply beq_eq_false_iff_ne.2
    intro he
    apply h
    have hd := he
    rw [ByteArray.toList_eq, ByteArray.toList_eq, strOfNums_data, strOfNums_data] at hd
    have e : ∀ l : List Int, Bytes l → (l.map fun n => UInt8.ofNat n.toNat).map (fun c => (c.toNat : Int)) = l := by
      intro l hl
      rw [List.map_map]
      conv => rhs; rw [← List.map_id l]
      apply List.map_congr_left
      intro x hx
      have := hl x hx
      simp only [Function.comp, id]
      show ((x.toNat % 256 : Nat) : Int) = x
      omega
    rw [← e a ha, ← e b hb, hd]
end Go.Proofs.Ytcjicfpdmegckaa.M

namespace Go.Proofs.Ytcjicfpdmegckaa.M
open Go.RowKit Go.Proofs.YtcjicfpdmegckaaW.PrintWords Go.Proofs.YtcjicfpdmegckaaW.PrintLast Go.Proofs.YtcjicfpdmegckaaW.PrintMore Go.Proofs.Ytcjicfpdmegckaa.Num

/-- the lowest m bytes of a number, the least first -/
def putL (n : Int) : Nat → List Int
  | 0 => []
  | m + 1 => putL n m ++ [n / 256 ^ m % 256]
theorem putL_length (n : Int) (m : Nat) : (putL n m).length = m := by
  induction m with
  | zero => rfl
  | succ m ih => simp [putL, ih]
/-- how many bytes are asked for -/
def asked (s : Int) : Nat := (mx 0 (mn s 8)).toNat
theorem asked_le (s : Int) : asked s ≤ 8 := by unfold asked mx mn; (repeat' split) <;> omega
theorem asked_nat {m : Nat} (h : m ≤ 8) : asked m = m := by unfold asked mx mn; (repeat' split) <;> omega
theorem pow256 (m : Nat) : (256 : Int) ^ m = 2 ^ (8 * m) := by rw [Int.pow_mul]; rfl
theorem shr8 (n : Int) (i : Nat) (h : i ≤ 8) : shr .u64 n (wrap64 (8 * (i : Int))) = n / 256 ^ i := by
  rw [w64 (by omega) (by omega)]
  unfold shr
  have : min (8 * (i : Int)).toNat IntKind.u64.bits = 8 * i := by simp [IntKind.bits]; omega
  rw [this, pow256]
theorem set_mid (xs ys : List Int) (a v : Int) : (xs ++ a :: ys).set xs.length v = xs ++ v :: ys := by
  induction xs with
  | nil => rfl
  | cons x xs ih => simp [ih]

theorem put_l0 (n : Int) (m : Nat) (hm : m ≤ 8) (d : Nat) : ∀ (k i : Nat), i + d = m → d < k → word_Put.l0 k n (putL n i ++ List.replicate d 0) (m : Int) (i : Int) = some (putL n m) := by
  induction d with
  | zero =>
    intro k i hi hk
    obtain ⟨k, rfl⟩ : ∃ j, k = j + 1 := ⟨k - 1, by omega⟩
    obtain rfl : i = m := by omega
    simp only [word_Put.l0]
    rw [if_neg (by omega)]
    simp
  | succ d ih =>
    intro k i hi hk
    obtain ⟨k, rfl⟩ : ∃ j, k = j + 1 := ⟨k - 1, by omega⟩
    simp only [word_Put.l0]
    rw [if_pos (by omega), shr8 n i (by omega), w64 (x := 8 * (i : Int)) (by omega) (by omega), if_pos (by omega), if_pos (by omega), if_pos (by simp [putL_length]; omega)]
    rw [w64 (x := (i : Int) + 1) (by omega) (by omega)]
    have e : (putL n i ++ List.replicate (d + 1) 0).set (i : Int).toNat (n / 256 ^ i % 256) = putL n (i + 1) ++ List.replicate d 0 := by
      have := set_mid (putL n i) (List.replicate d 0) 0 (n / 256 ^ i % 256)
      rw [putL_length] at this
      rw [Int.toNat_natCast, List.replicate_succ, this]
      simp [putL]
    rw [e]
    exact ih k (i + 1) (by omega) (by omega)
theorem put_eq (k : Nat) (hk : 8 < k) (n s : Int) : word_Put.f k n s = some (putL n (asked s)) := by
  unfold word_Put.f
  have h0 : 0 ≤ mx 0 (mn s 8) := by unfold mx; split <;> omega
  have h8 := asked_le s
  rw [if_pos h0, if_pos (by unfold asked at h8; omega)]
  have := put_l0 n (asked s) h8 (asked s) k 0 (by omega) (by omega)
  simp only [Option.bind_some, putL, List.nil_append] at this ⊢
  unfold asked at this ⊢
  simpa using this

end Go.Proofs.Ytcjicfpdmegckaa.M

namespace Go.Proofs.Ytcjicfpdmegckaa.M
open Go.RowKit Go.Proofs.YtcjicfpdmegckaaW.PrintWords Go.Proofs.YtcjicfpdmegckaaW.PrintLast Go.Proofs.YtcjicfpdmegckaaW.PrintMore Go.Proofs.Ytcjicfpdmegckaa.Num

theorem putL_bytes (n : Int) (m : Nat) : Bytes (putL n m) := by
  induction m with
  | zero => intro x hx; simp [putL] at hx
  | succ m ih =>
    intro x hx
    simp only [putL, List.mem_append, List.mem_singleton] at hx
    rcases hx with hx | rfl
    · exact ih x hx
    · omega
end Go.Proofs.Ytcjicfpdmegckaa.M

namespace Go.Proofs.Ytcjicfpdmegckaa.M
open Go.RowKit Go.Proofs.YtcjicfpdmegckaaW.PrintWords Go.Proofs.YtcjicfpdmegckaaW.PrintLast Go.Proofs.YtcjicfpdmegckaaW.PrintMore Go.Proofs.Ytcjicfpdmegckaa.Num Go.Proofs.Ytcjicfpdmegckaa.CrcN

def ints (l : List Nat) : List Int := l.map fun (n : Nat) => (n : Int)
def nats (l : List Int) : List Nat := l.map Int.toNat
theorem ints_nats {l : List Int} (h : Bytes l) : ints (nats l) = l := by
  unfold ints nats
  rw [List.map_map]
  conv => rhs; rw [← List.map_id l]
  apply List.map_congr_left
  intro x hx
  have := h x hx
  simp [Function.comp]; omega
theorem nats_ints (l : List Nat) : nats (ints l) = l := by
  unfold ints nats
  rw [List.map_map]
  conv => rhs; rw [← List.map_id l]
  apply List.map_congr_left
  intro x _
  simp [Function.comp]
theorem nats_lt {l : List Int} (h : Bytes l) : ∀ x ∈ nats l, x < 256 := by
  intro x hx
  obtain ⟨y, hy, rfl⟩ := List.mem_map.1 hx
  have := h y hy
  omega
theorem ints_bytes {l : List Nat} (h : ∀ x ∈ l, x < 256) : Bytes (ints l) := by
  intro x hx
  obtain ⟨y, hy, rfl⟩ := List.mem_map.1 hx
  have := h y hy
  omega
theorem nats_append (a b : List Int) : nats (a ++ b) = nats a ++ nats b := List.map_append
theorem ints_append (a b : List Nat) : ints (a ++ b) = ints a ++ ints b := List.map_append
theorem nats_length (l : List Int) : (nats l).length = l.length := List.length_map _
theorem ints_length (l : List Nat) : (ints l).length = l.length := List.length_map _
theorem ints_inj {a b : List Nat} (h : ints a = ints b) : a = b := by rw [← nats_ints a, h, nats_ints]

theorem step_nat (n : Nat) (h : n < 4294967296) : stepI (n : Int) = (stepN n : Nat) := by
  unfold stepI stepN
  have h1 : Go.bits .and .u32 (n : Int) 1 = ((n % 2 : Nat) : Int) := by
    have := u32_and_nat n 1 h (by decide)
    rw [show ((1 : Nat) : Int) = 1 from rfl] at this
    rw [this, Nat.and_one_is_mod]
  rw [h1]
  have h2 : (2197175160 * ((n % 2 : Nat) : Int)) % 4294967296 = ((poly * (n % 2) : Nat) : Int) := by
    unfold poly
    rcases two_cases n with e | e <;> rw [e] <;> rfl
  have h3 : poly * (n % 2) < 4294967296 := by
    unfold poly
    rcases two_cases n with e | e <;> rw [e] <;> decide
  rw [h2, show (n : Int) / 2 = ((n / 2 : Nat) : Int) from rfl, u32_xor_nat _ _ (by omega) h3]
theorem st_last (k x : Nat) : st (k + 1) x = stepN (st k x) := by rw [Nat.add_comm, st_add]; rfl
theorem eight_nat (n : Nat) (h : n < 4294967296) (k : Nat) : eightI (n : Int) k = (st k n : Nat) := by
  induction k with
  | zero => rfl
  | succ k ih => rw [eightI, ih, step_nat _ (st_lt k h), st_last]
theorem tab_nat (i : Nat) (h : i < 256) : tabI i = (st 8 i : Nat) := by
  unfold tabI
  have : IntKind.u32.wrap (i : Int) = i := by simp [IntKind.wrap, IntKind.bits, IntKind.signed]; omega
  rw [this, eight_nat i (by omega)]
theorem join8 (n : Nat) : n = n % 256 ^^^ 2 ^ 8 * (n / 256) := by
  have hl : n % 256 < 2 ^ 8 := Nat.mod_lt _ (by omega)
  have h1 := Nat.two_pow_add_eq_or_of_lt hl (n / 256)
  have h2 : n % 256 ^^^ 2 ^ 8 * (n / 256) = 2 ^ 8 * (n / 256) ||| n % 256 := by
    apply Nat.eq_of_testBit_eq
    intro k
    rw [Nat.testBit_or, Nat.testBit_xor]
    by_cases hk : k < 8
    · rw [Nat.testBit_two_pow_mul]; simp [show ¬ 8 ≤ k by omega]
    · rw [Nat.testBit_lt_two_pow (x := n % 256) (i := k) (Nat.lt_of_lt_of_le hl (Nat.pow_le_pow_right (show 2 > 0 by decide) (show 8 ≤ k by omega)))]; simp
  rw [h2, ← h1]; omega
theorem byte_nat (n c : Nat) (hn : n < 4294967296) (hc : c < 256) : mstep tabI (n : Int) (c : Int) = (byteN n c : Nat) := by
  unfold mstep byteN
  have h1 : Go.bits .xor .u8 ((n : Int) % 256) (c : Int) = ((n % 256 ^^^ c : Nat) : Int) := u8_xor_nat (n % 256) c (by omega) hc
  have h2 : n % 256 ^^^ c < 256 := Nat.xor_lt_two_pow (n := 8) (by omega) hc
  rw [h1, Int.toNat_natCast, tab_nat _ h2, show (n : Int) / 256 = ((n / 256 : Nat) : Int) from rfl, u32_xor_nat _ _ (by omega) (st_lt 8 (by omega))]
  have e : n ^^^ c = (n % 256 ^^^ c) ^^^ 2 ^ 8 * (n / 256) := by
    conv => lhs; rw [join8 n]
    rw [Nat.xor_assoc, Nat.xor_comm (2 ^ 8 * _), ← Nat.xor_assoc]
  rw [e, xor_shift, Nat.xor_comm]
theorem fold_nat (l : List Nat) (hl : ∀ x ∈ l, x < 256) : ∀ (s : Nat), s < 4294967296 → (ints l).foldl (mstep tabI) (s : Int) = (F s l : Nat) := by
  induction l with
  | nil => intro s _; rfl
  | cons c l ih =>
    intro s hs
    have hc := hl c List.mem_cons_self
    show List.foldl (mstep tabI) (mstep tabI (s : Int) (c : Int)) (ints l) = _
    rw [byte_nat s c hs hc, ih (fun x hx => hl x (List.mem_cons_of_mem _ hx)) _ (byteN_lt hs hc), F_cons]
theorem compl_nat (n : Nat) (h : n < 4294967296) : compl (n : Int) = (top ^^^ n : Nat) := by
  unfold compl
  have : IntKind.u32.max = ((top : Nat) : Int) := by decide
  rw [this, u32_xor_nat _ _ top_lt h]
theorem more_nat (n : Nat) (hn : n < 4294967296) (l : List Nat) (hl : ∀ x ∈ l, x < 256) : moreI tabI (n : Int) (ints l) = (top ^^^ F (top ^^^ n) l : Nat) := by
  have h1 : top ^^^ n < 4294967296 := Nat.xor_lt_two_pow (n := 32) top_lt hn
  unfold moreI
  rw [compl_nat n hn, fold_nat l hl _ h1, compl_nat _ (F_lt h1 l hl)]
theorem sum_eq (l : List Int) (h : Bytes l) : crc_Sum.f l = some ((sumN (nats l) : Nat) : Int) := by
  unfold crc_Sum.f
  have := more_nat 0 (by decide) (nats l) (nats_lt h)
  rw [ints_nats h] at this
  rw [show (0 : Int) = ((0 : Nat) : Int) from rfl, this]
  simp [sumN]
end Go.Proofs.Ytcjicfpdmegckaa.M

namespace Go.Proofs.Ytcjicfpdmegckaa.M
open Go.RowKit Go.Proofs.YtcjicfpdmegckaaW.PrintWords Go.Proofs.YtcjicfpdmegckaaW.PrintLast Go.Proofs.YtcjicfpdmegckaaW.PrintMore Go.Proofs.Ytcjicfpdmegckaa.Num

theorem drop_rd' {s : List Int} {i : Nat} (h : i < s.length) : s.drop i = rd s (i : Int) :: s.drop (i + 1) := by
  unfold rd
  rw [Int.toNat_natCast, List.drop_eq_getElem_cons h, List.getD_eq_getElem?_getD, List.getElem?_eq_getElem h]; rfl
theorem equalInts_l0 (a b : List Int) (hab : a.length = b.length) (hl : a.length < 9223372036854775807) : ∀ (d k i : Nat), i + d = a.length → d < k → slices_Equal_int_int.l0 k a b (a.length : Int) (i : Int) = some (decide (a.drop i = b.drop i)) := by
  intro d
  induction d with
  | zero =>
    intro k i hi hk
    obtain ⟨k, rfl⟩ : ∃ j, k = j + 1 := ⟨k - 1, by omega⟩
    rw [slices_Equal_int_int.l0, if_neg (by omega), List.drop_of_length_le (by omega), List.drop_of_length_le (by omega)]; simp
  | succ d ih =>
    intro k i hi hk
    obtain ⟨k, rfl⟩ : ∃ j, k = j + 1 := ⟨k - 1, by omega⟩
    have := ih k (i + 1) (by omega) (by omega)
    rw [show ((i + 1 : Nat) : Int) = (i : Int) + 1 by omega] at this
    rw [slices_Equal_int_int.l0, if_pos (by omega), drop_rd' (s := a) (by omega), drop_rd' (s := b) (by omega)]
    (repeat rw [if_pos (by omega)])
    by_cases he : rd a (i : Int) = rd b (i : Int)
    · simp only [he, if_true]
      rw [w64 (x := (i : Int) + 1) (by omega) (by omega), this]
      simp
    · simp only [he, if_false]
      simp [he]
theorem equalInts_eq (a b : List Int) (hl : a.length < 9223372036854775807) (k : Nat) (hk : a.length < k) : slices_Equal_int_int.f k a b = some (decide (a = b)) := by
  unfold slices_Equal_int_int.f
  by_cases h : (a.length : Int) = (b.length : Int)
  · rw [if_pos h]
    have := equalInts_l0 a b (by omega) hl a.length k 0 (by omega) (by omega)
    simpa using this
  · rw [if_neg h, decide_eq_false]
    rintro rfl; exact h rfl
end Go.Proofs.Ytcjicfpdmegckaa.M

namespace Go.Proofs.Ytcjicfpdmegckaa.M
open Go.RowKit Go.Proofs.YtcjicfpdmegckaaW.PrintWords Go.Proofs.YtcjicfpdmegckaaW.PrintLast Go.Proofs.YtcjicfpdmegckaaW.PrintMore Go.Proofs.Ytcjicfpdmegckaa.Num Go.Proofs.Ytcjicfpdmegckaa.CrcN

/-- the bytes of sizes, two each -/
def twos : List Int → List Int
  | [] => []
  | x :: t => putL x 2 ++ twos t
theorem twos_append (a b : List Int) : twos (a ++ b) = twos a ++ twos b := by
  induction a with
  | nil => rfl
  | cons x t ih => simp only [List.cons_append, twos, ih, List.append_assoc]
theorem twos_length (s : List Int) : (twos s).length = 2 * s.length := by
  induction s with
  | nil => rfl
  | cons x t ih => simp only [twos, List.length_append, putL_length, List.length_cons, ih]; omega
theorem twos_bytes (s : List Int) : Bytes (twos s) := by
  induction s with
  | nil => exact fun x hx => by cases hx
  | cons x t ih => exact (putL_bytes x 2).append ih
end Go.Proofs.Ytcjicfpdmegckaa.M

namespace Go.Proofs.Ytcjicfpdmegckaa.M
open Go.RowKit Go.Proofs.YtcjicfpdmegckaaW.PrintWords Go.Proofs.YtcjicfpdmegckaaW.PrintLast Go.Proofs.YtcjicfpdmegckaaW.PrintMore Go.Proofs.Ytcjicfpdmegckaa.Num

/-- sizes that are none below 0, and not too great together with n -/
def okFrom : Int → List Int → Bool
  | _, [] => true
  | n, x :: t => decide (0 ≤ x ∧ n + x ≤ 4096) && okFrom (n + x) t
def sumI : List Int → Int
  | [] => 0
  | x :: t => x + sumI t
theorem sumI_append (a b : List Int) : sumI (a ++ b) = sumI a + sumI b := by
  induction a with
  | nil => simp [sumI]
  | cons x t ih => simp only [List.cons_append, sumI, ih]; omega
theorem okFrom_iff (s : List Int) : ∀ n, n ≤ 4096 → (okFrom n s = true ↔ (∀ x ∈ s, 0 ≤ x) ∧ n + sumI s ≤ 4096) := by
  induction s with
  | nil => intro n hn; simp [okFrom, sumI]; exact hn
  | cons x t ih =>
    intro n hn
    simp only [okFrom, Bool.and_eq_true, decide_eq_true_eq, sumI, List.mem_cons, forall_eq_or_imp]
    constructor
    · rintro ⟨⟨h0, h1⟩, h2⟩
      obtain ⟨h3, h4⟩ := (ih _ h1).1 h2
      exact ⟨⟨h0, h3⟩, by omega⟩
    · rintro ⟨⟨h0, h3⟩, h4⟩
      have hs : 0 ≤ sumI t := by
        clear ih h4
        induction t with
        | nil => exact Int.le_refl 0
        | cons y t ih2 => have := h3 y List.mem_cons_self; have := ih2 (fun z hz => h3 z (List.mem_cons_of_mem _ hz)); simp only [sumI]; omega
      exact ⟨⟨h0, by omega⟩, (ih _ (by omega)).2 ⟨h3, by omega⟩⟩
def fitsB (s : List Int) : Bool := decide (1 ≤ s.length ∧ s.length ≤ 16 ∧ 1 ≤ s.getD 0 0) && okFrom 0 s
theorem fitsB_iff (s : List Int) : fitsB s = true ↔ 1 ≤ s.length ∧ s.length ≤ 16 ∧ 1 ≤ s.getD 0 0 ∧ (∀ x ∈ s, 0 ≤ x) ∧ sumI s ≤ 4096 := by
  unfold fitsB
  rw [Bool.and_eq_true, decide_eq_true_eq, okFrom_iff s 0 (by omega), Int.zero_add]
  constructor
  · rintro ⟨⟨a, b, c⟩, d, e⟩; exact ⟨a, b, c, d, e⟩
  · rintro ⟨a, b, c, d, e⟩; exact ⟨⟨a, b, c⟩, d, e⟩
theorem mem_le_sum (s : List Int) (h : ∀ x ∈ s, 0 ≤ x) : 0 ≤ sumI s ∧ ∀ x ∈ s, x ≤ sumI s := by
  induction s with
  | nil => exact ⟨Int.le_refl 0, fun x hx => by cases hx⟩
  | cons y t ih =>
    have h0 := h y List.mem_cons_self
    obtain ⟨h1, h2⟩ := ih (fun z hz => h z (List.mem_cons_of_mem _ hz))
    refine ⟨by simp only [sumI]; omega, fun x hx => ?_⟩
    simp only [sumI]
    rcases List.mem_cons.1 hx with rfl | hx
    · omega
    · have := h2 x hx; omega
theorem fits_mem {s : List Int} (h : fitsB s = true) : ∀ x ∈ s, 0 ≤ x ∧ x ≤ 4096 := by
  obtain ⟨_, _, _, h0, h1⟩ := (fitsB_iff s).1 h
  intro x hx
  have := (mem_le_sum s h0).2 x hx
  exact ⟨h0 x hx, by omega⟩
theorem drop_rd {s : List Int} {i : Nat} (h : i < s.length) : s.drop i = rd s (i : Int) :: s.drop (i + 1) := by
  unfold rd
  rw [Int.toNat_natCast, List.drop_eq_getElem_cons h, List.getD_eq_getElem?_getD, List.getElem?_eq_getElem h]; rfl
theorem add_fit (n x : Int) (h0 : 0 ≤ n) (h1 : n ≤ 4096) : word_Add.f n x 4096 = some (if 0 ≤ x ∧ n + x ≤ 4096 then (n + x, true) else (0, false)) := by
  unfold word_Add.f
  rw [w64 (x := 4096 - n) (by omega) (by omega)]
  by_cases hx : 0 ≤ x
  · rw [if_neg (by unfold mn; split <;> omega), if_neg (by omega)]
    by_cases h : x > 4096 - n
    · rw [if_pos h, if_neg (by omega)]
    · rw [if_neg h, if_pos ⟨hx, by omega⟩, w64 (by omega) (by omega)]
  · rw [if_pos (by unfold mn; split <;> omega), if_neg (by omega)]
theorem fits_l0 (s : List Int) (hs : s.length ≤ 16) : ∀ (d k i : Nat) (n : Int), i + d = s.length → d < k → 0 ≤ n → n ≤ 4096 → arena_Fits.l0 k n s (s.length : Int) (i : Int) = some (okFrom n (s.drop i)) := by
  intro d
  induction d with
  | zero =>
    intro k i n hi hk _ _
    obtain ⟨k, rfl⟩ : ∃ j, k = j + 1 := ⟨k - 1, by omega⟩
    rw [arena_Fits.l0, if_neg (by omega), List.drop_of_length_le (by omega)]; rfl
  | succ d ih =>
    intro k i n hi hk h0 h1
    obtain ⟨k, rfl⟩ : ∃ j, k = j + 1 := ⟨k - 1, by omega⟩
    rw [arena_Fits.l0, if_pos (by omega), if_pos (by omega), if_pos (by omega), add_fit n _ h0 h1, Option.bind_some, drop_rd (by omega)]
    by_cases h : 0 ≤ rd s (i : Int) ∧ n + rd s (i : Int) ≤ 4096
    · rw [if_pos h]
      simp only [if_true]
      rw [w64 (x := (i : Int) + 1) (by omega) (by omega)]
      have := ih k (i + 1) (n + rd s (i : Int)) (by omega) (by omega) (by omega) h.2
      rw [show ((i + 1 : Nat) : Int) = (i : Int) + 1 by omega] at this
      rw [this]
      simp only [okFrom, decide_eq_true h, Bool.true_and]
    · rw [if_neg h]
      simp only [okFrom, decide_eq_false h, Bool.false_and, Bool.false_eq_true, if_false]
theorem fits_eq (s : List Int) (k : Nat) (hk : 20 < k) : arena_Fits.f k s = some (fitsB s) := by
  obtain ⟨k, rfl⟩ : ∃ j, k = j + 1 := ⟨k - 1, by omega⟩
  unfold arena_Fits.f fitsB
  by_cases h1 : (s.length : Int) < 1
  · rw [if_pos h1, arena_Fits.j0, if_pos rfl, decide_eq_false (by omega)]; rfl
  · rw [if_neg h1]
    by_cases h2 : (s.length : Int) > 16
    · rw [if_pos h2, arena_Fits.j0, if_pos rfl, decide_eq_false (by omega)]; rfl
    · rw [if_neg h2, if_pos (by omega), arena_Fits.j0]
      have e : rd s 0 = s.getD 0 0 := rfl
      rw [e]
      by_cases h3 : s.getD 0 0 < 1
      · rw [if_pos (decide_eq_true h3), decide_eq_false (by omega)]; rfl
      · rw [if_neg (by simpa using h3), decide_eq_true (by omega), Bool.true_and]
        have := fits_l0 s (by omega) s.length k 0 0 (by omega) (by omega) (by omega) (by omega)
        simpa using this
/-- how many words there are -/
def wordsI (s : List Int) : Int := if fitsB s = true then sumI s else 0
theorem wordsI_bd (s : List Int) : 0 ≤ wordsI s ∧ wordsI s ≤ 4096 := by
  unfold wordsI
  split
  · rename_i h; obtain ⟨_, _, _, h0, h1⟩ := (fitsB_iff s).1 h; exact ⟨(mem_le_sum s h0).1, h1⟩
  · omega
/-- how many chunks there are -/
def chunksN (s : List Int) : Nat := ((wordsI s + 7) / 8).toNat
theorem chunksN_le (s : List Int) : chunksN s ≤ 512 := by have := wordsI_bd s; unfold chunksN; omega
theorem chunksN_cast (s : List Int) : ((chunksN s : Nat) : Int) = (wordsI s + 7) / 8 := by have := wordsI_bd s; unfold chunksN; omega
end Go.Proofs.Ytcjicfpdmegckaa.M

namespace Go.Proofs.Ytcjicfpdmegckaa.M
open Go.RowKit Go.Proofs.YtcjicfpdmegckaaW.PrintWords Go.Proofs.YtcjicfpdmegckaaW.PrintLast Go.Proofs.YtcjicfpdmegckaaW.PrintMore Go.Proofs.Ytcjicfpdmegckaa.Num

theorem maniRight_eq (x : Int) (s : List Int) (y : Int) (k : Nat) (hk : 20 < k) : mani_Right.f k x s y = some (fitsB s) := by
  unfold mani_Right.f; rw [fits_eq s k hk]; rfl
theorem words_l0 (s : List Int) (hs : s.length ≤ 16) (h0 : ∀ x ∈ s, 0 ≤ x) (hm : sumI s ≤ 4096) : ∀ (d k i : Nat), i + d = s.length → d < k → mani_Words.l0 k (sumI (s.take i)) s (s.length : Int) (i : Int) = some (sumI s) := by
  intro d
  induction d with
  | zero =>
    intro k i hi hk
    obtain ⟨k, rfl⟩ : ∃ j, k = j + 1 := ⟨k - 1, by omega⟩
    rw [mani_Words.l0, if_neg (by omega), List.take_of_length_le (by omega)]
  | succ d ih =>
    intro k i hi hk
    obtain ⟨k, rfl⟩ : ∃ j, k = j + 1 := ⟨k - 1, by omega⟩
    have e : s.take (i + 1) = s.take i ++ [rd s (i : Int)] := by
      unfold rd
      rw [List.take_succ_eq_append_getElem (by omega), Int.toNat_natCast, List.getD_eq_getElem?_getD, List.getElem?_eq_getElem (show i < s.length by omega)]; rfl
    have e2 : sumI (s.take (i + 1)) = sumI (s.take i) + rd s (i : Int) := by rw [e, sumI_append]; simp [sumI]
    have b1 := mem_le_sum (s.take (i + 1)) (fun x hx => h0 x (List.mem_of_mem_take hx))
    have b2 := mem_le_sum (s.drop (i + 1)) (fun x hx => h0 x (List.mem_of_mem_drop hx))
    have b3 : sumI s = sumI (s.take (i + 1)) + sumI (s.drop (i + 1)) := by rw [← sumI_append, List.take_append_drop]
    rw [mani_Words.l0, if_pos (by omega), if_pos (by omega), if_pos (by omega), ← e2, w64 (by omega) (by omega), w64 (x := (i : Int) + 1) (by omega) (by omega)]
    exact ih k (i + 1) (by omega) (by omega)
theorem words_eq (x : Int) (s : List Int) (y : Int) (k : Nat) (hk : 20 < k) : mani_Words.f k x s y = some (wordsI s) := by
  unfold mani_Words.f wordsI
  rw [maniRight_eq x s y k hk, Option.bind_some]
  by_cases h : fitsB s = true
  · obtain ⟨_, h16, _, h0, hm⟩ := (fitsB_iff s).1 h
    rw [if_pos h, if_pos h]
    have := words_l0 s h16 h0 hm s.length k 0 (by omega) (by omega)
    simpa [sumI] using this
  · rw [if_neg h, if_neg h]
theorem ceil8 {n : Int} (h0 : 0 ≤ n) (h1 : n ≤ 4096) : word_Ceil.f n 8 = some ((n + 7) / 8) := by
  unfold word_Ceil.f
  rw [if_neg (by omega), if_neg (by omega), if_neg (by omega), if_neg (by omega), if_neg (by omega), w64 (x := n + 8) (by omega) (by omega), w64 (x := n + 8 - 1) (by omega) (by omega), tdivn (by omega), w64 (by omega) (by omega)]
  congr 1; omega
theorem chunks_eq (x : Int) (s : List Int) (y : Int) (k : Nat) (hk : 20 < k) : mani_Chunks.f k x s y = some (chunksN s : Int) := by
  unfold mani_Chunks.f
  have := wordsI_bd s
  rw [words_eq x s y k hk, Option.bind_some, ceil8 (by omega) (by omega), Option.bind_some, chunksN_cast]
end Go.Proofs.Ytcjicfpdmegckaa.M

namespace Go.Proofs.Ytcjicfpdmegckaa.M
set_option linter.unusedVariables false
open Go.RowKit Go.Proofs.YtcjicfpdmegckaaW.PrintWords Go.Proofs.YtcjicfpdmegckaaW.PrintLast Go.Proofs.YtcjicfpdmegckaaW.PrintMore Go.Proofs.Ytcjicfpdmegckaa.Num Go.Proofs.Ytcjicfpdmegckaa.CrcN

theorem rfits_l0 (s : List Int) (hs : s.length ≤ 16) : ∀ (d k i : Nat) (n : Int), i + d = s.length → d < k → 0 ≤ n → n ≤ 4096 → scullerref07_Fits.l0 k s n (i : Int) = some (okFrom n (s.drop i)) := by
  intro d
  induction d with
  | zero =>
    intro k i n hi hk _ _
    obtain ⟨k, rfl⟩ : ∃ j, k = j + 1 := ⟨k - 1, by omega⟩
    rw [scullerref07_Fits.l0, if_neg (by omega), List.drop_of_length_le (by omega)]; rfl
  | succ d ih =>
    intro k i n hi hk h0 h1
    obtain ⟨k, rfl⟩ : ∃ j, k = j + 1 := ⟨k - 1, by omega⟩
    rw [scullerref07_Fits.l0, if_pos (by omega), if_pos (by omega), drop_rd (by omega), w64 (x := 4096 - n) (by omega) (by omega)]
    by_cases h : 0 ≤ rd s (i : Int) ∧ n + rd s (i : Int) ≤ 4096
    · rw [if_neg (by omega), if_neg (by omega), w64 (x := n + _) (by omega) (by omega), w64 (x := (i : Int) + 1) (by omega) (by omega)]
      have := ih k (i + 1) (n + rd s (i : Int)) (by omega) (by omega) (by omega) h.2
      rw [show ((i + 1 : Nat) : Int) = (i : Int) + 1 by omega] at this
      rw [this]
      simp only [okFrom, decide_eq_true h, Bool.true_and]
    · simp only [okFrom, decide_eq_false h, Bool.false_and]
      by_cases hx : rd s (i : Int) < 0
      · rw [if_pos hx]
      · rw [if_neg hx, if_pos (by omega)]
theorem rfits_eq (s : List Int) (k : Nat) (hk : 20 < k) : scullerref07_Fits.f k s = some (fitsB s) := by
  obtain ⟨k, rfl⟩ : ∃ j, k = j + 1 := ⟨k - 1, by omega⟩
  unfold scullerref07_Fits.f fitsB
  by_cases h1 : (s.length : Int) < 1
  · rw [if_pos h1, scullerref07_Fits.j0, if_pos rfl, decide_eq_false (by omega)]; rfl
  · rw [if_neg h1]
    by_cases h2 : (s.length : Int) > 16
    · rw [if_pos h2, scullerref07_Fits.j0, if_pos rfl, decide_eq_false (by omega)]; rfl
    · rw [if_neg h2, if_pos (by omega), scullerref07_Fits.j0]
      have e : rd s 0 = s.getD 0 0 := rfl
      rw [e]
      by_cases h3 : s.getD 0 0 < 1
      · rw [if_pos (decide_eq_true h3), decide_eq_false (by omega)]; rfl
      · rw [if_neg (by simpa using h3), decide_eq_true (by omega), Bool.true_and]
        have := rfits_l0 s (by omega) s.length k 0 0 (by omega) (by omega) (by omega) (by omega)
        simpa using this
end Go.Proofs.Ytcjicfpdmegckaa.M

namespace Go.Proofs.Ytcjicfpdmegckaa.M
set_option linter.unusedVariables false
open Go.RowKit Go.Proofs.YtcjicfpdmegckaaW.PrintWords Go.Proofs.YtcjicfpdmegckaaW.PrintLast Go.Proofs.YtcjicfpdmegckaaW.PrintMore Go.Proofs.Ytcjicfpdmegckaa.Num Go.Proofs.Ytcjicfpdmegckaa.CrcN

theorem rwords_l0 (x : Int) (s : List Int) (y : Int) (hs : s.length ≤ 16) (h0 : ∀ x ∈ s, 0 ≤ x) (hm : sumI s ≤ 4096) : ∀ (d k i : Nat), i + d = s.length → d < k → scullerref12_Words.l0 k (sumI (s.take i)) (i : Int) x s y = some (sumI s) := by
  intro d
  induction d with
  | zero =>
    intro k i hi hk
    obtain ⟨k, rfl⟩ : ∃ j, k = j + 1 := ⟨k - 1, by omega⟩
    rw [scullerref12_Words.l0, if_neg (by omega), List.take_of_length_le (by omega)]
  | succ d ih =>
    intro k i hi hk
    obtain ⟨k, rfl⟩ : ∃ j, k = j + 1 := ⟨k - 1, by omega⟩
    have e : s.take (i + 1) = s.take i ++ [rd s (i : Int)] := by
      unfold rd
      rw [List.take_succ_eq_append_getElem (by omega), Int.toNat_natCast, List.getD_eq_getElem?_getD, List.getElem?_eq_getElem (show i < s.length by omega)]; rfl
    have e2 : sumI (s.take (i + 1)) = sumI (s.take i) + rd s (i : Int) := by rw [e, sumI_append]; simp [sumI]
    have b1 := mem_le_sum (s.take (i + 1)) (fun x hx => h0 x (List.mem_of_mem_take hx))
    have b2 := mem_le_sum (s.drop (i + 1)) (fun x hx => h0 x (List.mem_of_mem_drop hx))
    have b3 : sumI s = sumI (s.take (i + 1)) + sumI (s.drop (i + 1)) := by rw [← sumI_append, List.take_append_drop]
    rw [scullerref12_Words.l0, if_pos (by omega), if_pos (by omega), ← e2, w64 (by omega) (by omega), w64 (x := (i : Int) + 1) (by omega) (by omega)]
    exact ih k (i + 1) (by omega) (by omega)
theorem rwords_eq (x : Int) (s : List Int) (y : Int) (k : Nat) (hk : 20 < k) : scullerref12_Words.f k x s y = some (wordsI s) := by
  unfold scullerref12_Words.f scullerref12_Right.f wordsI
  rw [rfits_eq s k hk, Option.bind_some, Option.bind_some]
  by_cases h : fitsB s = true
  · obtain ⟨_, h16, _, h0, hm⟩ := (fitsB_iff s).1 h
    rw [if_pos h, if_pos h]
    have := rwords_l0 x s y h16 h0 hm s.length k 0 (by omega) (by omega)
    simpa [sumI] using this
  · rw [if_neg h, if_neg h]
end Go.Proofs.Ytcjicfpdmegckaa.M

namespace Go.Proofs.Ytcjicfpdmegckaa.M
set_option linter.unusedVariables false
open Go.RowKit Go.Proofs.YtcjicfpdmegckaaW.PrintWords Go.Proofs.YtcjicfpdmegckaaW.PrintLast Go.Proofs.YtcjicfpdmegckaaW.PrintMore Go.Proofs.Ytcjicfpdmegckaa.Num Go.Proofs.Ytcjicfpdmegckaa.CrcN

def lens (a : List (List Int)) : List Int := a.map fun s => (s.length : Int)
theorem lens_append (a b : List (List Int)) : lens (a ++ b) = lens a ++ lens b := List.map_append
/-- words as bytes -/
def wbytes : List Int → List Int
  | [] => []
  | x :: t => putL x 8 ++ wbytes t
theorem wbytes_append (a b : List Int) : wbytes (a ++ b) = wbytes a ++ wbytes b := by
  induction a with
  | nil => rfl
  | cons x t ih => simp only [List.cons_append, wbytes, ih, List.append_assoc]
theorem wbytes_length (s : List Int) : (wbytes s).length = 8 * s.length := by
  induction s with
  | nil => rfl
  | cons x t ih => simp only [wbytes, List.length_append, putL_length, List.length_cons, ih]; omega
theorem wbytes_bytes (s : List Int) : Bytes (wbytes s) := by
  induction s with
  | nil => exact fun x hx => by cases hx
  | cons x t ih => exact (putL_bytes x 8).append ih
theorem flat_len (a : List (List Int)) : (a.flatten.length : Int) = sumI (lens a) := by
  induction a with
  | nil => rfl
  | cons s t ih => simp only [List.flatten_cons, List.length_append, lens, List.map_cons, sumI] at ih ⊢; omega
end Go.Proofs.Ytcjicfpdmegckaa.M

namespace Go.Proofs.Ytcjicfpdmegckaa.M
set_option linter.unusedVariables false
open Go.RowKit Go.Proofs.YtcjicfpdmegckaaW.PrintWords Go.Proofs.YtcjicfpdmegckaaW.PrintLast Go.Proofs.YtcjicfpdmegckaaW.PrintMore Go.Proofs.Ytcjicfpdmegckaa.Num Go.Proofs.Ytcjicfpdmegckaa.CrcN

theorem lens_take_rd {a : List (List Int)} {i : Nat} (h : i < a.length) : lens (a.take (i + 1)) = lens (a.take i) ++ [((rd_L1 a (i : Int)).length : Int)] := by
  unfold rd_L1
  rw [List.take_succ_eq_append_getElem h, lens_append, Int.toNat_natCast, List.getD_eq_getElem?_getD, List.getElem?_eq_getElem h]; rfl
theorem sizes_l0 (a : List (List Int)) (hl : a.length < 17592186044416) : ∀ (d k i : Nat), i + d = a.length → d < k → arena_Sizes.l0 k (lens (a.take i)) a (a.length : Int) (i : Int) = some (lens a) := by
  intro d
  induction d with
  | zero =>
    intro k i hi hk
    obtain ⟨k, rfl⟩ : ∃ j, k = j + 1 := ⟨k - 1, by omega⟩
    rw [arena_Sizes.l0, if_neg (by omega), List.take_of_length_le (by omega)]
  | succ d ih =>
    intro k i hi hk
    obtain ⟨k, rfl⟩ : ∃ j, k = j + 1 := ⟨k - 1, by omega⟩
    have hll : (lens (a.take i)).length < 17592186044416 := by simp only [lens, List.length_map, List.length_take]; omega
    rw [arena_Sizes.l0, if_pos (by omega), if_pos (by omega), if_pos (by omega), if_pos (by omega), ← lens_take_rd (by omega), w64 (x := (i : Int) + 1) (by omega) (by omega)]
    exact ih k (i + 1) (by omega) (by omega)
theorem sizes_eq (a : List (List Int)) (hl : a.length < 17592186044416) (k : Nat) (hk : a.length < k) : arena_Sizes.f k a = some (lens a) := by
  unfold arena_Sizes.f
  have := sizes_l0 a hl a.length k 0 (by omega) hk
  simpa [lens] using this
theorem aright_eq (a : List (List Int)) (hl : a.length < 17592186044416) (k : Nat) (hk : a.length < k) (hk2 : 20 < k) : arena_Right.f k a = some (fitsB (lens a)) := by
  unfold arena_Right.f
  rw [sizes_eq a hl k hk, Option.bind_some, fits_eq _ k hk2, Option.bind_some]
theorem put8_eq (x : Int) : put8 x = putL x 8 := by
  have a8 : asked 8 = 8 := by decide
  unfold put8
  rw [put_eq 9 (by omega), a8]; rfl
theorem flat_wbytes (l : List Int) : l.flatMap put8 = wbytes l := by
  induction l with
  | nil => rfl
  | cons x t ih => rw [List.flatMap_cons, ih, put8_eq]; rfl
theorem abytes_eq {a : List (List Int)} (h : a.flatten.length < 8796093022208) : arena_Bytes.f a = some (wbytes a.flatten) := by
  unfold arena_Bytes.f; rw [if_pos h, flat_wbytes]
theorem awords_eq {a : List (List Int)} (h : a.flatten.length < 140737488355328) : arena_Words.f a = some (a.flatten.length : Int) := by
  unfold arena_Words.f; rw [if_pos h]
end Go.Proofs.Ytcjicfpdmegckaa.M

namespace Go.Proofs.Ytcjicfpdmegckaa.M
set_option linter.unusedVariables false
open Go.RowKit Go.Proofs.YtcjicfpdmegckaaW.PrintWords Go.Proofs.YtcjicfpdmegckaaW.PrintLast Go.Proofs.YtcjicfpdmegckaaW.PrintMore Go.Proofs.Ytcjicfpdmegckaa.Num Go.Proofs.Ytcjicfpdmegckaa.CrcN

/-- of what a manifest's sum is -/
def manB (s : Int) (a : List (List Int)) : List Int := (putL s 8 ++ twos (lens a)) ++ wbytes a.flatten
theorem manB_bytes (s : Int) (a : List (List Int)) : Bytes (manB s a) := ((putL_bytes _ _).append (twos_bytes _)).append (wbytes_bytes _)
end Go.Proofs.Ytcjicfpdmegckaa.M

namespace Go.Proofs.Ytcjicfpdmegckaa.M
set_option linter.unusedVariables false
open Go.RowKit Go.Proofs.YtcjicfpdmegckaaW.PrintWords Go.Proofs.YtcjicfpdmegckaaW.PrintLast Go.Proofs.YtcjicfpdmegckaaW.PrintMore Go.Proofs.Ytcjicfpdmegckaa.Num Go.Proofs.Ytcjicfpdmegckaa.CrcN

theorem more_append (l1 l2 : List Int) (h1 : Bytes l1) (h2 : Bytes l2) : moreI tabI (moreI tabI 0 l1) l2 = moreI tabI 0 (l1 ++ l2) := by
  have n1 := nats_lt h1
  have n2 := nats_lt h2
  have e1 := more_nat 0 (by decide) (nats l1) n1
  have e3 := more_nat 0 (by decide) (nats l1 ++ nats l2) (fun x hx => (List.mem_append.1 hx).elim (n1 x) (n2 x))
  rw [Nat.xor_zero] at e1 e3
  have hl := F_lt top_lt (nats l1) n1
  have e2 := more_nat (top ^^^ F top (nats l1)) (Nat.xor_lt_two_pow (n := 32) top_lt hl) (nats l2) n2
  rw [ints_nats h1] at e1
  rw [ints_nats h2] at e2
  rw [ints_append, ints_nats h1, ints_nats h2, F_append] at e3
  rw [show (0 : Int) = ((0 : Nat) : Int) from rfl, e1, e3, e2, ← Nat.xor_assoc, Nat.xor_self, Nat.zero_xor]
theorem put2_eq {x : Int} (h0 : 0 ≤ x) (h1 : x ≤ 4096) : put2 x = putL x 2 := by
  have a2 : asked 2 = 2 := by decide
  unfold put2
  rw [u64id h0 (by omega), put_eq 9 (by omega), a2]; rfl
theorem more_twos (ss : List Int) (h : ∀ x ∈ ss, 0 ≤ x ∧ x ≤ 4096) : ∀ (l : List Int), Bytes l → ss.foldl (fun n x => moreI tabI n (put2 x)) (moreI tabI 0 l) = moreI tabI 0 (l ++ twos ss) := by
  induction ss with
  | nil => intro l _; simp [twos]
  | cons x t ih =>
    intro l hl
    obtain ⟨h0, h1⟩ := h x List.mem_cons_self
    rw [List.foldl_cons, put2_eq h0 h1, more_append l _ hl (putL_bytes _ _), ih (fun z hz => h z (List.mem_cons_of_mem _ hz)) _ (hl.append (putL_bytes _ _)), List.append_assoc]; rfl
theorem of_ok (s : Int) (a : List (List Int)) (h : fitsB (lens a) = true) (k : Nat) (hk : 40 < k) : mani_Of.f k s a = some (s, lens a, ((sumN (nats (manB s a)) : Nat) : Int), 0) := by
  obtain ⟨h1, h16, _, h0, hm⟩ := (fitsB_iff _).1 h
  have hl : (lens a).length = a.length := List.length_map _
  have hf := flat_len a
  have hs := sum_eq (manB s a) (manB_bytes s a)
  unfold crc_Sum.f at hs
  unfold mani_Of.f
  rw [aright_eq a (by omega) k (by omega) (by omega), Option.bind_some, if_pos h, sizes_eq a (by omega) k (by omega), Option.bind_some, abytes_eq (by omega), Option.bind_some, put8_eq, more_twos _ (fits_mem h) _ (putL_bytes _ _), more_append _ _ ((putL_bytes _ _).append (twos_bytes _)) (wbytes_bytes _)]
  have e := Option.some.inj hs
  unfold manB at e
  rw [e]; rfl
theorem of_no_eq (s : Int) (a : List (List Int)) (h : fitsB (lens a) = false) (hl : a.length < 17592186044416) (k : Nat) (hk : a.length < k) (hk2 : 20 < k) : mani_Of.f k s a = some (0, [], 0, 1) := by
  unfold mani_Of.f
  rw [aright_eq a hl k hk hk2, Option.bind_some, h, if_neg (by simp)]
theorem ceil4 {n : Nat} (h1 : n ≤ 16) : word_Ceil.f (n : Int) 4 = some (((n + 3) / 4 : Nat) : Int) := by
  unfold word_Ceil.f
  rw [if_neg (by omega), if_neg (by omega), if_neg (by omega), if_neg (by omega), if_neg (by omega), w64 (x := (n : Int) + 4) (by omega) (by omega), w64 (x := (n : Int) + 4 - 1) (by omega) (by omega), tdivn (by omega), w64 (by omega) (by omega)]
  congr 1; omega
/-- how many pages there are -/
def pagesN (s : List Int) : Nat := if fitsB s = true then (s.length + 3) / 4 else 0
theorem pages_eq (x : Int) (s : List Int) (y : Int) (k : Nat) (hk : 20 < k) : mani_Pages.f k x s y = some (pagesN s : Int) := by
  unfold mani_Pages.f pagesN
  rw [maniRight_eq x s y k hk, Option.bind_some]
  by_cases h : fitsB s = true
  · obtain ⟨_, h16, _, _, _⟩ := (fitsB_iff s).1 h
    rw [if_pos h, if_pos h, ceil4 h16]; rfl
  · rw [if_neg h, if_neg h]; rfl
/-- how many bytes chunk i has -/
def sizeN (s : List Int) (i : Int) : Int := if i < 0 then 0 else if i ≥ (chunksN s : Int) then 0 else min 64 (8 * wordsI s - 64 * i)
theorem size_eq (x : Int) (s : List Int) (y i : Int) (k : Nat) (hk : 20 < k) : mani_Size.f k x s y i = some (sizeN s i) := by
  have hw := wordsI_bd s
  have hc := chunksN_le s
  unfold mani_Size.f sizeN
  by_cases h : i < 0
  · rw [if_pos h, if_pos h]
  · rw [if_neg h, if_neg h, chunks_eq x s y k hk, Option.bind_some]
    by_cases h2 : i ≥ (chunksN s : Int)
    · rw [if_pos h2, if_pos h2]
    · rw [if_neg h2, if_neg h2, words_eq x s y k hk, Option.bind_some, w64 (x := wordsI s * 8) (by omega) (by omega), w64 (x := i * 64) (by omega) (by omega), w64 (by omega) (by omega)]
      congr 1
      unfold mn
      split <;> omega
theorem maniSame_eq (x : Int) (ss : List Int) (y x' : Int) (ss' : List Int) (y' : Int) (hl : ss.length < 9223372036854775807) (k : Nat) (hk : ss.length < k) : mani_Same.f k x ss y x' ss' y' = some (decide (x = x' ∧ y = y' ∧ ss = ss')) := by
  unfold mani_Same.f
  by_cases h1 : x = x'
  · by_cases h2 : y = y'
    · rw [if_pos h1, if_pos h2, equalInts_eq ss ss' hl k hk, Option.bind_some]
      simp [h1, h2]
    · rw [if_pos h1, if_neg h2]; simp [h2]
  · rw [if_neg h1]; simp [h1]
theorem matches_ok (x : Int) (ss : List Int) (y : Int) (a : List (List Int)) (h : fitsB (lens a) = true) (hl : ss.length < 9223372036854775807) (k : Nat) (hk : ss.length < k) (hk2 : 40 < k) :
    mani_Matches.f k x ss y a = some (decide (y = ((sumN (nats (manB x a)) : Nat) : Int) ∧ ss = lens a)) := by
  unfold mani_Matches.f
  rw [of_ok x a h k hk2, Option.bind_some]
  dsimp only
  rw [if_pos rfl, maniSame_eq _ _ _ _ _ _ hl k hk, Option.bind_some]
  simp
theorem known12_eq (k : Nat) (hk : 60 < k) : scullerlaw12_known.f k = some true := by
  have hf : fitsB (lens [List.replicate 9 0]) = true := by decide
  have hl : lens [List.replicate 9 0] = [9] := by decide
  have hc : chunksN [9] = 2 := by decide
  have s0 : sizeN [9] 0 = 64 := by decide
  have s1 : sizeN [9] 1 = 8 := by decide
  have hp : pagesN [9] = 1 := by decide
  unfold scullerlaw12_known.f
  rw [if_pos (by omega), of_ok 5 _ hf k (by omega), Option.bind_some]
  dsimp only
  rw [if_pos rfl, hl, chunks_eq _ _ _ k (by omega), Option.bind_some, hc, if_pos (show ((2 : Nat) : Int) = 2 from rfl), size_eq _ _ _ _ k (by omega), Option.bind_some, s0, if_pos rfl, size_eq _ _ _ _ k (by omega), Option.bind_some, s1, if_pos rfl, pages_eq _ _ _ k (by omega), Option.bind_some, hp, if_pos (show ((1 : Nat) : Int) = 1 from rfl),
    matches_ok _ _ _ _ hf (by simp) k (by simp; omega) (by omega), Option.bind_some, hl]
  simp
end Go.Proofs.Ytcjicfpdmegckaa.M
