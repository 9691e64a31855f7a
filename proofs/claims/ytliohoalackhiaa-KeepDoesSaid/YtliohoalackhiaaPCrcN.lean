/- Sums of bytes in plain numbers: half of a number (stepN), many halves (st), bytes one behind the other (F): linear, undone by nothing but nought; a burst of at most 32 bits is seen. No program in sight. -/
import Derived.KernelRfl
namespace Go.Proofs.Ytliohoalackhiaa.CrcN
def poly : Nat := 2197175160
def top : Nat := 4294967295
def stepN (x : Nat) : Nat := x / 2 ^^^ poly * (x % 2)
def st : Nat → Nat → Nat
  | 0, x => x
  | k + 1, x => st k (stepN x)
theorem two_cases (x : Nat) : x % 2 = 0 ∨ x % 2 = 1 := by omega
theorem xor_mod2 (a b : Nat) : (a ^^^ b) % 2 = (a % 2) ^^^ (b % 2) := by
  have := @Nat.xor_mod_two_pow a b 1
  simpa using this
theorem xor_div2 (a b : Nat) : (a ^^^ b) / 2 = a / 2 ^^^ b / 2 := by
  have := @Nat.xor_div_two_pow a b 1
  simpa using this
theorem step_xor (a b : Nat) : stepN (a ^^^ b) = stepN a ^^^ stepN b := by
  unfold stepN
  rw [xor_mod2, xor_div2]
  have h : poly * (a % 2 ^^^ b % 2) = poly * (a % 2) ^^^ poly * (b % 2) := by
    rcases two_cases a with ha | ha <;> rcases two_cases b with hb | hb <;> simp [ha, hb]
  rw [h]
  simp only [Nat.xor_assoc]
  congr 1
  rw [← Nat.xor_assoc (b / 2), Nat.xor_comm (b / 2), Nat.xor_assoc]
theorem st_xor (k : Nat) : ∀ a b, st k (a ^^^ b) = st k a ^^^ st k b := by
  induction k with
  | zero => intro a b; rfl
  | succ k ih => intro a b; simp only [st, step_xor, ih]
theorem st_add (a b x : Nat) : st (a + b) x = st a (st b x) := by
  induction b generalizing x with
  | zero => rfl
  | succ b ih => rw [← Nat.add_assoc]; simp only [st, ih]
theorem step_lt {x : Nat} (h : x < 4294967296) : stepN x < 4294967296 := by
  have h1 : x / 2 < 2 ^ 32 := by omega
  have h2 : poly * (x % 2) < 2 ^ 32 := by
    unfold poly
    rcases two_cases x with h | h <;> rw [h] <;> decide
  exact Nat.xor_lt_two_pow h1 h2
theorem st_lt (k : Nat) : ∀ {x : Nat}, x < 4294967296 → st k x < 4294967296 := by
  induction k with
  | zero => intro x h; exact h
  | succ k ih => intro x h; exact ih (step_lt h)
theorem step_double (x : Nat) : stepN (2 * x) = x := by
  unfold stepN
  rw [show 2 * x % 2 = 0 by omega, show 2 * x / 2 = x by omega]
  simp
theorem st_shift (i x : Nat) : st i (2 ^ i * x) = x := by
  induction i with
  | zero => simp [st]
  | succ i ih => rw [st, Nat.pow_succ, Nat.mul_comm (2 ^ i) 2, Nat.mul_assoc, step_double, ih]
def byteN (s c : Nat) : Nat := st 8 (s ^^^ c)
def F (s : Nat) (l : List Nat) : Nat := l.foldl byteN s
theorem F_nil (s : Nat) : F s [] = s := rfl
theorem F_cons (s c : Nat) (l : List Nat) : F s (c :: l) = F (byteN s c) l := rfl
theorem byteN_lt {s c : Nat} (hs : s < 4294967296) (hc : c < 256) : byteN s c < 4294967296 := st_lt 8 (Nat.xor_lt_two_pow (n := 32) hs (by omega))
theorem F_lt {s : Nat} (hs : s < 4294967296) (l : List Nat) (hl : ∀ x ∈ l, x < 256) : F s l < 4294967296 := by
  induction l generalizing s with
  | nil => exact hs
  | cons c l ih => rw [F_cons]; exact ih (byteN_lt hs (hl c List.mem_cons_self)) (fun x hx => hl x (List.mem_cons_of_mem _ hx))
def four (t : Nat) : List Nat := [t % 256, t / 256 % 256, t / 65536 % 256, t / 16777216 % 256]
theorem xor_shift (a h k : Nat) : st k (a ^^^ 2 ^ k * h) = st k a ^^^ h := by rw [st_xor, st_shift]
theorem four_inj {a b : Nat} (ha : a < 4294967296) (hb : b < 4294967296) (h : four a = four b) : a = b := by
  unfold four at h
  injection h with h0 h
  injection h with h1 h
  injection h with h2 h
  injection h with h3 h
  omega
def sumN (l : List Nat) : Nat := top ^^^ F top l
theorem top_lt : top < 4294967296 := by decide
theorem sumN_lt (l : List Nat) (hl : ∀ x ∈ l, x < 256) : sumN l < 4294967296 := Nat.xor_lt_two_pow (n := 32) top_lt (F_lt top_lt l hl)
end Go.Proofs.Ytliohoalackhiaa.CrcN
