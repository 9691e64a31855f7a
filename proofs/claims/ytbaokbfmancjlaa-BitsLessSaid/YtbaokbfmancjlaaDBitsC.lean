/- How many bits of a row of bytes are set: what bits.Count computes. Conditions: those in each theorem. -/
import Derived.Test.YtbaokbfmancjlaaDBits
namespace Go.Proofs.Ytbaokbfmancjlaa.D
open Go.RowKit Go.Proofs.YtbaokbfmancjlaaW.PrintWords Go.Proofs.YtbaokbfmancjlaaW.PrintLast Go.Proofs.YtbaokbfmancjlaaW.PrintMore Go.Proofs.Ytbaokbfmancjlaa.Num

/-- of how many numbers below n p holds -/
def cb (p : Nat → Bool) : Nat → Nat
  | 0 => 0
  | n + 1 => cb p n + if p n then 1 else 0
theorem cb_congr {p q : Nat → Bool} {n : Nat} (h : ∀ i, i < n → p i = q i) : cb p n = cb q n := by
  induction n with
  | zero => rfl
  | succ n ih => simp only [cb]; rw [ih (fun i hi => h i (by omega)), h n (by omega)]
theorem cb_add (p : Nat → Bool) (n m : Nat) : cb p (n + m) = cb p n + cb (fun j => p (n + j)) m := by
  induction m with
  | zero => rfl
  | succ m ih => rw [← Nat.add_assoc]; simp only [cb]; rw [ih]; omega
theorem cb_le (p : Nat → Bool) (n : Nat) : cb p n ≤ n := by
  induction n with
  | zero => exact Nat.le_refl _
  | succ n ih => simp only [cb]; split <;> omega
theorem cb_one (p : Nat → Bool) (i : Nat) (hp : p i = false) (n : Nat) (hi : i < n) : cb (fun j => p j || decide (i = j)) n = cb p n + 1 := by
  induction n with
  | zero => omega
  | succ n ih =>
    simp only [cb]
    by_cases e : i = n
    · subst e
      rw [cb_congr (p := fun j => p j || decide (i = j)) (q := p) (fun j hj => by rw [decide_eq_false (by omega), Bool.or_false])]
      simp [hp]
    · rw [ih (by omega)]; simp only [decide_eq_false e, Bool.or_false]; omega
theorem cb_lt (m n : Nat) : cb (fun j => decide (j < m)) n = min m n := by
  induction n with
  | zero => simp [cb]
  | succ n ih =>
    simp only [cb]; rw [ih]
    by_cases h : n < m
    · simp only [decide_eq_true h, if_true]; omega
    · simp only [decide_eq_false h, Bool.false_eq_true, if_false]; omega
theorem ones_fin : ∀ x : Fin 256, Lib.onesCount x.val = cb (fun j => x.val.testBit j) 8 := by decide +kernel
theorem ones_cb {l : List Int} (hb : Bytes l) (i : Nat) : Lib.onesCount (l.getD i 0).toNat = cb (fun j => B l (8 * i + j)) 8 := by
  have h := hb.at_ i
  rw [ones_fin ⟨(l.getD i 0).toNat, by omega⟩]
  refine cb_congr fun j hj => ?_
  unfold B
  rw [show (8 * i + j) / 8 = i by omega, show (8 * i + j) % 8 = j by omega]
theorem count_loop {l : List Int} (hb : Bytes l) (hl : l.length < 140737488355328) : ∀ (d k i : Nat), i + d = l.length → d < k → bits_Count.l0 k ((cb (B l) (8 * i) : Nat) : Int) l (l.length : Int) (i : Int) = some ((cb (B l) (8 * l.length) : Nat) : Int) := by
  intro d
  induction d with
  | zero =>
    intro k i hi hk
    obtain ⟨k, rfl⟩ : ∃ j, k = j + 1 := ⟨k - 1, by omega⟩
    obtain rfl : i = l.length := by omega
    rw [bits_Count.l0, if_neg (by omega)]
  | succ d ih =>
    intro k i hi hk
    obtain ⟨k, rfl⟩ : ∃ j, k = j + 1 := ⟨k - 1, by omega⟩
    have h := hb.at_ i
    have hc := cb_le (B l) (8 * i)
    have ho : Lib.onesCount (l.getD i 0).toNat ≤ 8 := by rw [ones_cb hb]; exact cb_le _ _
    rw [bits_Count.l0, if_pos (by omega), if_pos (by omega), if_pos (by omega)]
    have e : bits_OnesCount8.f (rd l (i : Int)) = some ((Lib.onesCount (l.getD i 0).toNat : Nat) : Int) := by
      unfold bits_OnesCount8.f rd
      rw [Int.toNat_natCast, if_pos h]
    rw [e, Option.bind_some, w64 (x := (i : Int) + 1) (by omega) (by omega), w64 (by omega) (by omega)]
    have := ih k (i + 1) (by omega) (by omega)
    rw [show 8 * (i + 1) = 8 * i + 8 by omega, cb_add, ← ones_cb hb] at this
    exact this
theorem count_eq {l : List Int} (hb : Bytes l) (hl : l.length < 140737488355328) (k : Nat) (hk : l.length < k) : bits_Count.f k l = some ((cb (B l) (8 * l.length) : Nat) : Int) := by
  unfold bits_Count.f
  exact count_loop hb hl l.length k 0 (by omega) hk
end Go.Proofs.Ytbaokbfmancjlaa.D
