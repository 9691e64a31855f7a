/- What crc.Sum, crc.Seal and crc.Right compute, in plain numbers: for every row of bytes. -/
import Derived.Test.YtcjicfpdmegckaaKx3
import Derived.Test.YtcjicfpdmegckaaKx6
import Derived.Test.YtcjicfpdmegckaaKPut
import Derived.Test.YtcjicfpdmegckaaCrcN
import Derived.Laws.BitsAllLaws
namespace Go.Proofs.Ytcjicfpdmegckaa.K
open Go.RowKit Go.Proofs.YtcjicfpdmegckaaW.PrintWords Go.Proofs.YtcjicfpdmegckaaW.PrintLast Go.Proofs.YtcjicfpdmegckaaW.PrintMore Go.Proofs.Ytcjicfpdmegckaa.Num Go.Proofs.Ytcjicfpdmegckaa.CrcN

def ints (l : List Nat) : List Int := l.map fun (n : Nat) => (n : Int)
def nats (l : List Int) : List Nat := l.map Int.toNat
def Bytes (l : List Int) : Prop := ∀ x ∈ l, 0 ≤ x ∧ x ≤ 255
theorem Bytes.of_wf {l : List Int} (h : ∀ x ∈ l, (Lit.int .u8 x).wf = true) : Bytes l := fun x hx => bounds_u8 (h x hx)
theorem Bytes.take {l : List Int} (h : Bytes l) (n : Nat) : Bytes (l.take n) := fun x hx => h x (List.mem_of_mem_take hx)
theorem Bytes.drop {l : List Int} (h : Bytes l) (n : Nat) : Bytes (l.drop n) := fun x hx => h x (List.mem_of_mem_drop hx)
theorem Bytes.append {a b : List Int} (ha : Bytes a) (hb : Bytes b) : Bytes (a ++ b) := fun x hx => (List.mem_append.1 hx).elim (ha x) (hb x)
theorem ints_nats {l : List Int} (h : Bytes l) : ints (nats l) = l := by
  unfold ints nats
  rw [List.map_map]
  conv => rhs; rw [← List.map_id l]
  apply List.map_congr_left
  intro x hx
  have := h x hx
  simp [Function.comp]; omega
theorem nats_ints (l : List Nat) : nats (ints l) = l := by
  unfold ints nats
  rw [List.map_map]
  conv => rhs; rw [← List.map_id l]
  apply List.map_congr_left
  intro x _
  simp [Function.comp]
theorem nats_lt {l : List Int} (h : Bytes l) : ∀ x ∈ nats l, x < 256 := by
  intro x hx
  obtain ⟨y, hy, rfl⟩ := List.mem_map.1 hx
  have := h y hy
  omega
theorem ints_bytes {l : List Nat} (h : ∀ x ∈ l, x < 256) : Bytes (ints l) := by
  intro x hx
  obtain ⟨y, hy, rfl⟩ := List.mem_map.1 hx
  have := h y hy
  omega
theorem nats_append (a b : List Int) : nats (a ++ b) = nats a ++ nats b := List.map_append
theorem ints_append (a b : List Nat) : ints (a ++ b) = ints a ++ ints b := List.map_append
theorem nats_length (l : List Int) : (nats l).length = l.length := List.length_map _
theorem ints_length (l : List Nat) : (ints l).length = l.length := List.length_map _
theorem ints_inj {a b : List Nat} (h : ints a = ints b) : a = b := by rw [← nats_ints a, h, nats_ints]

theorem step_nat (n : Nat) (h : n < 4294967296) : stepI (n : Int) = (stepN n : Nat) := by
  unfold stepI stepN
  have h1 : Go.bits .and .u32 (n : Int) 1 = ((n % 2 : Nat) : Int) := by
    have := u32_and_nat n 1 h (by decide)
    rw [show ((1 : Nat) : Int) = 1 from rfl] at this
    rw [this, Nat.and_one_is_mod]
  rw [h1]
  have h2 : (2197175160 * ((n % 2 : Nat) : Int)) % 4294967296 = ((poly * (n % 2) : Nat) : Int) := by
    unfold poly
    rcases two_cases n with e | e <;> rw [e] <;> rfl
  have h3 : poly * (n % 2) < 4294967296 := by
    unfold poly
    rcases two_cases n with e | e <;> rw [e] <;> decide
  rw [h2, show (n : Int) / 2 = ((n / 2 : Nat) : Int) from rfl, u32_xor_nat _ _ (by omega) h3]
theorem st_last (k x : Nat) : st (k + 1) x = stepN (st k x) := by rw [Nat.add_comm, st_add]; rfl
theorem eight_nat (n : Nat) (h : n < 4294967296) (k : Nat) : eightI (n : Int) k = (st k n : Nat) := by
  induction k with
  | zero => rfl
  | succ k ih => rw [eightI, ih, step_nat _ (st_lt k h), st_last]
theorem tab_nat (i : Nat) (h : i < 256) : tabI i = (st 8 i : Nat) := by
  unfold tabI
  have : IntKind.u32.wrap (i : Int) = i := by simp [IntKind.wrap, IntKind.bits, IntKind.signed]; omega
  rw [this, eight_nat i (by omega)]
theorem join8 (n : Nat) : n = n % 256 ^^^ 2 ^ 8 * (n / 256) := by
  have hl : n % 256 < 2 ^ 8 := Nat.mod_lt _ (by omega)
  have h1 := Nat.two_pow_add_eq_or_of_lt hl (n / 256)
  have h2 : n % 256 ^^^ 2 ^ 8 * (n / 256) = 2 ^ 8 * (n / 256) ||| n % 256 := by
    apply Nat.eq_of_testBit_eq
    intro k
    rw [Nat.testBit_or, Nat.testBit_xor]
    by_cases hk : k < 8
    · rw [Nat.testBit_two_pow_mul]; simp [show ¬ 8 ≤ k by omega]
    · rw [Nat.testBit_lt_two_pow (x := n % 256) (i := k) (Nat.lt_of_lt_of_le hl (Nat.pow_le_pow_right (show 2 > 0 by decide) (show 8 ≤ k by omega)))]; simp
  rw [h2, ← h1]; omega
theorem byte_nat (n c : Nat) (hn : n < 4294967296) (hc : c < 256) : mstep tabI (n : Int) (c : Int) = (byteN n c : Nat) := by
  unfold mstep byteN
  have h1 : Go.bits .xor .u8 ((n : Int) % 256) (c : Int) = ((n % 256 ^^^ c : Nat) : Int) := u8_xor_nat (n % 256) c (by omega) hc
  have h2 : n % 256 ^^^ c < 256 := Nat.xor_lt_two_pow (n := 8) (by omega) hc
  rw [h1, Int.toNat_natCast, tab_nat _ h2, show (n : Int) / 256 = ((n / 256 : Nat) : Int) from rfl, u32_xor_nat _ _ (by omega) (st_lt 8 (by omega))]
  have e : n ^^^ c = (n % 256 ^^^ c) ^^^ 2 ^ 8 * (n / 256) := by
    conv => lhs; rw [join8 n]
    rw [Nat.xor_assoc, Nat.xor_comm (2 ^ 8 * _), ← Nat.xor_assoc]
  rw [e, xor_shift, Nat.xor_comm]
theorem fold_nat (l : List Nat) (hl : ∀ x ∈ l, x < 256) : ∀ (s : Nat), s < 4294967296 → (ints l).foldl (mstep tabI) (s : Int) = (F s l : Nat) := by
  induction l with
  | nil => intro s _; rfl
  | cons c l ih =>
    intro s hs
    have hc := hl c List.mem_cons_self
    show List.foldl (mstep tabI) (mstep tabI (s : Int) (c : Int)) (ints l) = _
    rw [byte_nat s c hs hc, ih (fun x hx => hl x (List.mem_cons_of_mem _ hx)) _ (byteN_lt hs hc), F_cons]
theorem compl_nat (n : Nat) (h : n < 4294967296) : compl (n : Int) = (top ^^^ n : Nat) := by
  unfold compl
  have : IntKind.u32.max = ((top : Nat) : Int) := by decide
  rw [this, u32_xor_nat _ _ top_lt h]
theorem more_nat (n : Nat) (hn : n < 4294967296) (l : List Nat) (hl : ∀ x ∈ l, x < 256) : moreI tabI (n : Int) (ints l) = (top ^^^ F (top ^^^ n) l : Nat) := by
  have h1 : top ^^^ n < 4294967296 := Nat.xor_lt_two_pow (n := 32) top_lt hn
  unfold moreI
  rw [compl_nat n hn, fold_nat l hl _ h1, compl_nat _ (F_lt h1 l hl)]
theorem sum_eq (l : List Int) (h : Bytes l) : crc_Sum.f l = some ((sumN (nats l) : Nat) : Int) := by
  unfold crc_Sum.f
  have := more_nat 0 (by decide) (nats l) (nats_lt h)
  rw [ints_nats h] at this
  rw [show (0 : Int) = ((0 : Nat) : Int) from rfl, this]
  simp [sumN]
theorem four_put (n : Nat) : putL (n : Int) 4 = ints (four n) := by
  simp [putL, ints, four]
theorem asked4 : asked 4 = 4 := by decide
theorem seal_eq (k : Nat) (hk : 8 < k) (l : List Int) (h : Bytes l) (hl : l.length < 140737488355320) : crc_Seal.f k l = some (l ++ ints (four (sumN (nats l)))) := by
  have hs := sumN_lt (nats l) (nats_lt h)
  unfold crc_Seal.f bytes_Clone.f
  rw [if_pos (by omega), sum_eq l h]
  simp only [Option.bind_some]
  rw [u64id (by omega) (by omega), put_eq k hk, asked4, four_put]
  simp only [Option.bind_some]
  rw [if_pos (by simp [ints, four]; omega)]
/-- strings are the same just if the bytes are -/
theorem str_eq {a b : List Int} (ha : Bytes a) (hb : Bytes b) : ((strOfNums a).toList == (strOfNums b).toList) = decide (a = b) := by
  by_cases h : a = b
  · subst h; simp
  · rw [decide_eq_false h]
    apply beq_eq_false_iff_ne.2
    intro he
    apply h
    have hd := he
    rw [ByteArray.toList_eq, ByteArray.toList_eq, strOfNums_data, strOfNums_data] at hd
    have e : ∀ l : List Int, Bytes l → (l.map fun n => UInt8.ofNat n.toNat).map (fun c => (c.toNat : Int)) = l := by
      intro l hl
      rw [List.map_map]
      conv => rhs; rw [← List.map_id l]
      apply List.map_congr_left
      intro x hx
      have := hl x hx
      simp only [Function.comp, id]
      show ((x.toNat % 256 : Nat) : Int) = x
      omega
    rw [← e a ha, ← e b hb, hd]
theorem equal_eq {a b : List Int} (ha : Bytes a) (hb : Bytes b) : bytes_Equal.f a b = some (decide (a = b)) := by
  unfold bytes_Equal.f
  rw [str_eq ha hb]

/-- bytes and four more are right just if these are the sum -/
theorem right_four (k : Nat) (hk : 8 < k) (l : List Int) (h : Bytes l) (hl : l.length < 140737488355320) (t : Nat) (ht : t < 4294967296) :
    crc_Right.f k (l ++ ints (four t)) = some (decide (sumN (nats l) = t)) := by
  have hb4 : Bytes (ints (four t)) := ints_bytes (by intro x hx; simp [four] at hx; omega)
  have hlen : ((l ++ ints (four t)).length : Int) - 4 = l.length := by simp [ints, four]
  have hs := sumN_lt (nats l) (nats_lt h)
  unfold crc_Right.f
  rw [hlen, w64 (by omega) (by omega), if_pos (by omega), if_pos (by omega), if_pos (by rw [List.length_append]; omega), Int.toNat_natCast, List.take_left, seal_eq k hk l h hl]
  simp only [Option.bind_some]
  rw [equal_eq (h.append (ints_bytes (by intro x hx; simp [four] at hx; omega))) (h.append hb4)]
  simp only [Option.bind_some]
  congr 1
  rw [decide_eq_decide, List.append_cancel_left_eq]
  constructor
  · intro e; exact four_inj hs ht (ints_inj e)
  · intro e; rw [e]
/-- bytes are right just if the state behind them is the one number -/
theorem right_eq (k : Nat) (hk : 8 < k) (l : List Int) (h : Bytes l) (hl : l.length < 140737488355320) :
    crc_Right.f k l = some (decide (4 ≤ l.length ∧ F top (nats l) = st 32 top)) := by
  by_cases h4 : 4 ≤ l.length
  · obtain ⟨a, q, rfl, hq⟩ : ∃ a q, l = a ++ q ∧ q.length = 4 := ⟨l.take (l.length - 4), l.drop (l.length - 4), by simp, by simp; omega⟩
    have ha : Bytes a := fun x hx => h x (List.mem_append_left _ hx)
    have hqb : Bytes q := fun x hx => h x (List.mem_append_right _ hx)
    match q, hq with
    | [q0, q1, q2, q3], _ =>
      have b0 := hqb q0 (by simp)
      have b1 := hqb q1 (by simp)
      have b2 := hqb q2 (by simp)
      have b3 := hqb q3 (by simp)
      obtain ⟨t, ht, e⟩ : ∃ t : Nat, t < 4294967296 ∧ [q0, q1, q2, q3] = ints (four t) := by
        refine ⟨q0.toNat + 256 * q1.toNat + 65536 * q2.toNat + 16777216 * q3.toNat, by omega, ?_⟩
        simp only [ints, four, List.map_cons, List.map_nil]
        congr 1
        · omega
        · congr 1
          · omega
          · congr 1
            · omega
            · congr 1
              omega
      rw [e] at h4 hl ⊢
      rw [right_four k hk a ha (by simp at hl; omega) t ht]
      congr 1
      rw [decide_eq_decide, nats_append, nats_ints, ← right_iff _ (nats_lt ha) t ht]
      exact ⟨fun x => ⟨h4, x⟩, fun x => x.2⟩
  · rw [decide_eq_false (fun x => h4 x.1)]
    unfold crc_Right.f
    rw [w64 (by omega) (by omega), if_neg (by omega)]
end Go.Proofs.Ytcjicfpdmegckaa.K
