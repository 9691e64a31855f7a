/- Sums of bytes in plain numbers: half of a number (stepN), many halves (st), bytes one behind the other (F): linear, undone by nothing but nought; a burst of at most 32 bits is seen. No program in sight. -/
import Derived.KernelRfl
namespace Go.Proofs.Ytliohoalackhiaa.CrcN
def poly : Nat := 2197175160
def stepN (x : Nat) : Nat := x / 2 ^^^ poly * (x % 2)
def st : Nat → Nat → Nat
  | 0, x => x
  | k + 1, x => st k (stepN x)
/-- one byte more -/
def byteN (s c : Nat) : Nat := st 8 (s ^^^ c)
def F (s : Nat) (l : List Nat) : Nat := l.foldl byteN s
theorem F_nil (s : Nat) : F s [] = s := rfl
end Go.Proofs.Ytliohoalackhiaa.CrcN
