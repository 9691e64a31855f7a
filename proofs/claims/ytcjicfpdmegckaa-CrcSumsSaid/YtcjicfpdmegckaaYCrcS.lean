/- What crc.Sum computes, in plain numbers: for every row of bytes. -/
import Derived.Test.YtcjicfpdmegckaaYgCrc
import Derived.Test.YtcjicfpdmegckaaYStr
import Derived.Test.YtcjicfpdmegckaaCrcN
import Derived.Laws.BitsAllLaws
namespace Go.Proofs.Ytcjicfpdmegckaa.Y
open Go.RowKit Go.Proofs.YtcjicfpdmegckaaW.PrintWords Go.Proofs.YtcjicfpdmegckaaW.PrintLast Go.Proofs.YtcjicfpdmegckaaW.PrintMore Go.Proofs.Ytcjicfpdmegckaa.Num Go.Proofs.Ytcjicfpdmegckaa.CrcN

def ints (l : List Nat) : List Int := l.map fun (n : Nat) => (n : Int)
def nats (l : List Int) : List Nat := l.map Int.toNat
theorem ints_nats {l : List Int} (h : Bytes l) : ints (nats l) = l := by
  unfold ints nats
  rw [List.map_map]
  conv => rhs; rw [← List.map_id l]
  apply List.map_congr_left
  intro x hx
  have := h x hx
  simp [Function.comp]; omega
theorem nats_ints (l : List Nat) : nats (ints l) = l := by
  unfold ints nats
  rw [List.map_map]
  conv => rhs; rw [← List.map_id l]
  apply List.map_congr_left
  intro x _
  simp [Function.comp]
theorem nats_lt {l : List Int} (h : Bytes l) : ∀ x ∈ nats l, x < 256 := by
  intro x hx
  obtain ⟨y, hy, rfl⟩ := List.mem_map.1 hx
  have := h y hy
  omega
theorem ints_bytes {l : List Nat} (h : ∀ x ∈ l, x < 256) : Bytes (ints l) := by
  intro x hx
  obtain ⟨y, hy, rfl⟩ := List.mem_map.1 hx
  have := h y hy
  omega
theorem nats_append (a b : List Int) : nats (a ++ b) = nats a ++ nats b := List.map_append
theorem ints_append (a b : List Nat) : ints (a ++ b) = ints a ++ ints b := List.map_append
theorem nats_length (l : List Int) : (nats l).length = l.length := List.length_map _
theorem ints_length (l : List Nat) : (ints l).length = l.length := List.length_map _
theorem ints_inj {a b : List Nat} (h : ints a = ints b) : a = b := by rw [← nats_ints a, h, nats_ints]

theorem step_nat (n : Nat) (h : n < 4294967296) : stepI (n : Int) = (stepN n : Nat) := by
  unfold stepI stepN
  have h1 : Go.bits .and .u32 (n : Int) 1 = ((n % 2 : Nat) : Int) := by
    have := u32_and_nat n 1 h (by decide)
    rw [show ((1 : Nat) : Int) = 1 from rfl] at this
    rw [this, Nat.and_one_is_mod]
  rw [h1]
  have h2 : (2197175160 * ((n % 2 : Nat) : Int)) % 4294967296 = ((poly * (n % 2) : Nat) : Int) := by
    unfold poly
    rcases two_cases n with e | e <;> rw [e] <;> rfl
  have h3 : poly * (n % 2) < 4294967296 := by
    unfold poly
    rcases two_cases n with e | e <;> rw [e] <;> decide
  rw [h2, show (n : Int) / 2 = ((n / 2 : Nat) : Int) from rfl, u32_xor_nat _ _ (by omega) h3]
theorem st_last (k x : Nat) : st (k + 1) x = stepN (st k x) := by rw [Nat.add_comm, st_add]; rfl
theorem eight_nat (n : Nat) (h : n < 4294967296) (k : Nat) : eightI (n : Int) k = (st k n : Nat) := by
  induction k with
  | zero => rfl
  | succ k ih => rw [eightI, ih, step_nat _ (st_lt k h), st_last]
theorem tab_nat (i : Nat) (h : i < 256) : tabI i = (st 8 i : Nat) := by
  unfold tabI
  have : IntKind.u32.wrap (i : Int) = i := by simp [IntKind.wrap, IntKind.bits, IntKind.signed]; omega
  rw [this, eight_nat i (by omega)]
theorem join8 (n : Nat) : n = n % 256 ^^^ 2 ^ 8 * (n / 256) := by
  have hl : n % 256 < 2 ^ 8 := Nat.mod_lt _ (by omega)
  have h1 := Nat.two_pow_add_eq_or_of_lt hl (n / 256)
  have h2 : n % 256 ^^^ 2 ^ 8 * (n / 256) = 2 ^ 8 * (n / 256) ||| n % 256 := by
    apply Nat.eq_of_testBit_eq
    intro k
    rw [Nat.testBit_or, Nat.testBit_xor]
    by_cases hk : k < 8
    · rw [Nat.testBit_two_pow_mul]; simp [show ¬ 8 ≤ k by omega]
    · rw [Nat.testBit_lt_two_pow (x := n % 256) (i := k) (Nat.lt_of_lt_of_le hl (Nat.pow_le_pow_right (show 2 > 0 by decide) (show 8 ≤ k by omega)))]; simp
  rw [h2, ← h1]; omega
theorem byte_nat (n c : Nat) (hn : n < 4294967296) (hc : c < 256) : mstep tabI (n : Int) (c : Int) = (byteN n c : Nat) := by
  unfold mstep byteN
  have h1 : Go.bits .xor .u8 ((n : Int) % 256) (c : Int) = ((n % 256 ^^^ c : Nat) : Int) := u8_xor_nat (n % 256) c (by omega) hc
  have h2 : n % 256 ^^^ c < 256 := Nat.xor_lt_two_pow (n := 8) (by omega) hc
  rw [h1, Int.toNat_natCast, tab_nat _ h2, show (n : Int) / 256 = ((n / 256 : Nat) : Int) from rfl, u32_xor_nat _ _ (by omega) (st_lt 8 (by omega))]
  have e : n ^^^ c = (n % 256 ^^^ c) ^^^ 2 ^ 8 * (n / 256) := by
    conv => lhs; rw [join8 n]
    rw [Nat.xor_assoc, Nat.xor_comm (2 ^ 8 * _), ← Nat.xor_assoc]
  rw [e, xor_shift, Nat.xor_comm]
theorem fold_nat (l : List Nat) (hl : ∀ x ∈ l, x < 256) : ∀ (s : Nat), s < 4294967296 → (ints l).foldl (mstep tabI) (s : Int) = (F s l : Nat) := by
  induction l with
  | nil => intro s _; rfl
  | cons c l ih =>
    intro s hs
    have hc := hl c List.mem_cons_self
    show List.foldl (mstep tabI) (mstep tabI (s : Int) (c : Int)) (ints l) = _
    rw [byte_nat s c hs hc, ih (fun x hx => hl x (List.mem_cons_of_mem _ hx)) _ (byteN_lt hs hc), F_cons]
theorem compl_nat (n : Nat) (h : n < 4294967296) : compl (n : Int) = (top ^^^ n : Nat) := by
  unfold compl
  have : IntKind.u32.max = ((top : Nat) : Int) := by decide
  rw [this, u32_xor_nat _ _ top_lt h]
theorem more_nat (n : Nat) (hn : n < 4294967296) (l : List Nat) (hl : ∀ x ∈ l, x < 256) : moreI tabI (n : Int) (ints l) = (top ^^^ F (top ^^^ n) l : Nat) := by
  have h1 : top ^^^ n < 4294967296 := Nat.xor_lt_two_pow (n := 32) top_lt hn
  unfold moreI
  rw [compl_nat n hn, fold_nat l hl _ h1, compl_nat _ (F_lt h1 l hl)]
theorem sum_eq (l : List Int) (h : Bytes l) : crc_Sum.f l = some ((sumN (nats l) : Nat) : Int) := by
  unfold crc_Sum.f
  have := more_nat 0 (by decide) (nats l) (nats_lt h)
  rw [ints_nats h] at this
  rw [show (0 : Int) = ((0 : Nat) : Int) from rfl, this]
  simp [sumN]
end Go.Proofs.Ytcjicfpdmegckaa.Y
