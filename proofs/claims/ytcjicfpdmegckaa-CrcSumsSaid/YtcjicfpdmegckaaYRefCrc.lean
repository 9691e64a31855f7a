/- What the document's Step, More and Sum compute, in plain numbers: for every row of bytes. -/
import Derived.Test.YtcjicfpdmegckaaYx3
import Derived.Test.YtcjicfpdmegckaaYPutGet
import Derived.Test.YtcjicfpdmegckaaYCrc
namespace Go.Proofs.Ytcjicfpdmegckaa.Y
open Go.RowKit Go.Proofs.YtcjicfpdmegckaaW.PrintWords Go.Proofs.YtcjicfpdmegckaaW.PrintLast Go.Proofs.YtcjicfpdmegckaaW.PrintMore Go.Proofs.Ytcjicfpdmegckaa.Num Go.Proofs.Ytcjicfpdmegckaa.CrcN

theorem refstep_nat (n : Nat) (h : n < 4294967296) : scullerref02_Step.f (n : Int) = some ((stepN n : Nat) : Int) := by
  unfold scullerref02_Step.f stepN
  rw [tmodn (by omega), tdivn (by omega)]
  have h2 : (n : Int) / 2 % 4294967296 = ((n / 2 : Nat) : Int) := by omega
  rw [h2]
  rcases two_cases n with e | e
  · rw [if_neg (by omega), e, Nat.mul_zero, Nat.xor_zero]
  · rw [if_pos (by omega), e, Nat.mul_one]
    have := u32_xor_nat (n / 2) poly (by omega) (by decide)
    rw [show (2197175160 : Int) = ((poly : Nat) : Int) from rfl, this]
theorem refmore_l1 (l : List Int) (i : Int) : ∀ (d k j s : Nat), j + d = 8 → s < 4294967296 → scullerref02_More.l1 (k + 1 + d) (s : Int) l i (j : Int) = scullerref02_More.l0 k ((st d s : Nat) : Int) l (wrap64 (i + 1)) := by
  intro d
  induction d with
  | zero =>
    intro k j s hj hs
    rw [Nat.add_zero, scullerref02_More.l1, if_neg (by omega)]; rfl
  | succ d ih =>
    intro k j s hj hs
    rw [show k + 1 + (d + 1) = (k + 1 + d) + 1 by omega, scullerref02_More.l1, if_pos (by omega), refstep_nat s hs, Option.bind_some, w64 (x := (j : Int) + 1) (by omega) (by omega)]
    have := ih k (j + 1) (stepN s) (by omega) (step_lt hs)
    rw [show ((j + 1 : Nat) : Int) = (j : Int) + 1 by omega] at this
    rw [this]; rfl
theorem refmore_l0 (l : List Int) (h : Bytes l) (hl : l.length < 140737488355328) : ∀ (d k i s : Nat), i + d = l.length → 10 * d < k → s < 4294967296 → scullerref02_More.l0 k (s : Int) l (i : Int) = some ((F s (nats (l.drop i)) ^^^ top : Nat) : Int) := by
  intro d
  induction d with
  | zero =>
    intro k i s hi hk hs
    obtain ⟨k, rfl⟩ : ∃ j, k = j + 1 := ⟨k - 1, by omega⟩
    rw [scullerref02_More.l0, if_neg (by omega), List.drop_of_length_le (by omega)]
    have := u32_xor_nat s top hs top_lt
    rw [show (4294967295 : Int) = ((top : Nat) : Int) from rfl, this]; rfl
  | succ d ih =>
    intro k i s hi hk hs
    obtain ⟨k, rfl⟩ : ∃ j, k = j + 1 + 8 + 1 := ⟨k - 10, by omega⟩
    have hil : i < l.length := by omega
    have hx := h l[i] (List.getElem_mem hil)
    have er : rd l (i : Int) = ((l[i].toNat : Nat) : Int) := by
      unfold rd
      rw [Int.toNat_natCast, List.getD_eq_getElem?_getD, List.getElem?_eq_getElem hil, Option.getD_some]; omega
    rw [scullerref02_More.l0, if_pos (by omega), if_pos (by omega), er, show ((l[i].toNat : Nat) : Int) % 4294967296 = ((l[i].toNat : Nat) : Int) by omega, u32_xor_nat s l[i].toNat hs (by omega)]
    have hlt : s ^^^ l[i].toNat < 4294967296 := Nat.xor_lt_two_pow (n := 32) hs (by omega)
    have := refmore_l1 l (i : Int) 8 k 0 (s ^^^ l[i].toNat) (by omega) hlt
    rw [show ((0 : Nat) : Int) = 0 from rfl] at this
    rw [this, w64 (x := (i : Int) + 1) (by omega) (by omega)]
    have := ih k (i + 1) (st 8 (s ^^^ l[i].toNat)) (by omega) (by omega) (st_lt 8 hlt)
    rw [show ((i + 1 : Nat) : Int) = (i : Int) + 1 by omega] at this
    rw [this, List.drop_eq_getElem_cons hil]; rfl
theorem refmore_eq (n : Nat) (hn : n < 4294967296) (l : List Int) (h : Bytes l) (hl : l.length < 140737488355328) (k : Nat) (hk : 10 * l.length < k) : scullerref02_More.f k (n : Int) l = some ((top ^^^ F (top ^^^ n) (nats l) : Nat) : Int) := by
  unfold scullerref02_More.f
  rw [show (4294967295 : Int) = ((top : Nat) : Int) from rfl, u32_xor_nat n top hn top_lt]
  have := refmore_l0 l h hl l.length k 0 (n ^^^ top) (by omega) hk (Nat.xor_lt_two_pow (n := 32) hn top_lt)
  rw [show ((0 : Nat) : Int) = 0 from rfl, List.drop_zero] at this
  rw [this, Nat.xor_comm n top, Nat.xor_comm top (F _ _)]
theorem refsum_eq (l : List Int) (h : Bytes l) (hl : l.length < 140737488355328) (k : Nat) (hk : 10 * l.length < k) : scullerref02_Sum.f k l = some ((sumN (nats l) : Nat) : Int) := by
  unfold scullerref02_Sum.f
  have := refmore_eq 0 (by decide) l h hl k hk
  rw [show ((0 : Nat) : Int) = 0 from rfl] at this
  rw [this, Option.bind_some]; simp [sumN]
end Go.Proofs.Ytcjicfpdmegckaa.Y
