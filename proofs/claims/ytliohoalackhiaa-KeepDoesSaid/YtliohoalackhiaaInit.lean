/- The seat's head row, sign by sign, and three closed facts of the program that go by it. Conditions: none. -/
import Derived.Test.YtliohoalackhiaaRows
import Derived.JoinedOf
import Derived.KernelRfl
namespace Go.Proofs.Ytliohoalackhiaa.Init
open Go
def signs : List Char := [104, 97, 114, 110, 101, 115, 115, 32, 54, 99, 50, 57, 52, 56, 54, 53, 55, 48, 53, 99, 55, 48, 52, 51, 99, 48, 55, 101, 101, 50, 97, 52, 101, 55, 54, 52, 98, 50, 51, 57, 52, 98, 100, 54, 55, 54, 48, 54, 98, 100, 56, 52, 52, 50, 99, 57, 51, 56, 100, 52, 54, 55, 48, 97, 56, 49, 53, 98, 50, 57, 50, 53, 32, 99, 117, 116, 32, 97, 116, 32, 115, 99, 117, 108, 108, 101, 114, 47, 115, 99, 117, 108, 108, 101, 114, 108, 97, 119, 49, 53, 46, 75, 101, 101, 112, 76, 97, 115, 116, 115, 32, 115, 99, 117, 108, 108, 101, 114, 47, 115, 99, 117, 108, 108, 101, 114, 108, 97, 119, 49, 53, 46, 75, 101, 101, 112, 79, 114, 100, 101, 114, 32, 115, 99, 117, 108, 108, 101, 114, 47, 115, 99, 117, 108, 108, 101, 114, 108, 97, 119, 49, 53, 46, 75, 101, 101, 112, 67, 111, 112, 121, 32, 115, 99, 117, 108, 108, 101, 114, 47, 115, 99, 117, 108, 108, 101, 114, 108, 97, 119, 49, 50, 46, 77, 97, 110, 105, 84, 101, 108, 108, 115, 32, 115, 99, 117, 108, 108, 101, 114, 47, 115, 99, 117, 108, 108, 101, 114, 108, 97, 119, 49, 51, 46, 80, 97, 99, 107, 67, 111, 100, 101, 115, 32, 115, 99, 117, 108, 108, 101, 114, 47, 115, 99, 117, 108, 108, 101, 114, 108, 97, 119, 49, 52, 46, 84, 111, 107, 101, 110, 67, 111, 100, 101, 115, 32, 115, 99, 117, 108, 108, 101, 114, 47, 115, 99, 117, 108, 108, 101, 114, 108, 97, 119, 49, 50, 46, 77, 97, 110, 105, 79, 114, 100, 101, 114, 32, 115, 99, 117, 108, 108, 101, 114, 47, 115, 99, 117, 108, 108, 101, 114, 108, 97, 119, 49, 53, 46, 75, 101, 101, 112, 84, 111, 107, 101, 110, 32, 115, 99, 117, 108, 108, 101, 114, 47, 115, 99, 117, 108, 108, 101, 114, 108, 97, 119, 49, 50, 46, 77, 97, 110, 105, 67, 117, 116, 115, 32, 115, 99, 117, 108, 108, 101, 114, 47, 115, 99, 117, 108, 108, 101, 114, 108, 97, 119, 49, 50, 46, 77, 97, 110, 105, 87, 104, 111, 108, 101, 32, 115, 99, 117, 108, 108, 101, 114, 47, 115, 99, 117, 108, 108, 101, 114, 108, 97, 119, 49, 53, 46, 75, 101, 101, 112, 68, 111, 101, 115].map Char.ofNat
def row : String := "harness 6c294865705c7043c07ee2a4e764b2394bd67606bd8442c938d4670a815b2925 cut at sculler/scullerlaw15.KeepLasts sculler/scullerlaw15.KeepOrder sculler/scullerlaw15.KeepCopy sculler/scullerlaw12.ManiTells sculler/scullerlaw13.PackCodes sculler/scullerlaw14.TokenCodes sculler/scullerlaw12.ManiOrder sculler/scullerlaw15.KeepToken sculler/scullerlaw12.ManiCuts sculler/scullerlaw12.ManiWhole sculler/scullerlaw15.KeepDoes"
theorem row_signs : row = String.ofList signs := by kernel_rfl
theorem head : Try.pinned.checked.prog.initOrder = row := by kernel_rfl
theorem headL : Try.pinned.checked.prog.initOrder.toList = signs := by rw [head, row_signs]; exact String.toList_ofList
theorem mayEnter_of (P : Program) (l : List Char) (h : P.initOrder.toList = l) (d : P.laysLater = false) (e : P.bearsReflect = false) (f : P.doorFits [] = true)
    (h2 : (match behindMainWord (wordsSigns l) with | c :: rest => (stripLifts liftWords (c :: rest)).2.head? == some "cut".toList && (stripLifts liftWords (c :: rest)).1 == [] | [] => false) = true) : P.mayEnter = true := by
  unfold Program.mayEnter
  rw [h]
  cases hb : behindMainWord (wordsSigns l) with
  | nil => rw [hb] at h2; cases h2
  | cons c rest =>
    rw [hb] at h2
    simp only [Bool.and_eq_true, beq_iff_eq] at h2
    obtain ⟨h3, h4⟩ := h2
    simp only [h3, h4, d, e, f]
    simp
theorem make_of (P : Program) (l : List Char) (h : P.initOrder.toList = l)
    (h2 : (match behindMainWord (wordsSigns l) with | c :: _ => (!(c == "gc".toList || c == "spec".toList)) && c == "cut".toList | [] => false) = true) : P.make = some .cut := by
  unfold Program.make
  rw [h]
  cases hb : behindMainWord (wordsSigns l) with
  | nil => rw [hb] at h2; cases h2
  | cons c rest =>
    rw [hb] at h2
    simp only [Bool.and_eq_true, Bool.not_eq_true'] at h2
    obtain ⟨h3, h4⟩ := h2
    simp only [h3, h4, Bool.false_eq_true, if_false, Bool.true_or, if_true]
theorem laysLater : Try.pinned.checked.prog.laysLater = false := by kernel_rfl
theorem bearsReflect : Try.pinned.checked.prog.bearsReflect = false := by kernel_rfl
theorem doorFits : Try.pinned.checked.prog.doorFits [] = true := by kernel_rfl
theorem strip : (match behindMainWord (wordsSigns signs) with | c :: rest => (stripLifts liftWords (c :: rest)).2.head? == some "cut".toList && (stripLifts liftWords (c :: rest)).1 == [] | [] => false) = true := by kernel_rfl
theorem first : (match behindMainWord (wordsSigns signs) with | c :: _ => (!(c == "gc".toList || c == "spec".toList)) && c == "cut".toList | [] => false) = true := by kernel_rfl
theorem mayEnter : Try.pinned.checked.prog.mayEnter = true := mayEnter_of _ _ headL laysLater bearsReflect doorFits strip
theorem make : Try.pinned.checked.prog.make = some .cut := make_of _ _ headL first
theorem liftsFinal : Try.pinned.checked.prog.liftsFinal = false := by
  unfold Program.liftsFinal Program.headLifts
  rw [headL]
  as_aux_lemma => kernel_rfl
end Go.Proofs.Ytliohoalackhiaa.Init
