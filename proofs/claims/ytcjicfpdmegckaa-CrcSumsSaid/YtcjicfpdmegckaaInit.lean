/- The seat's head row, sign by sign, and three closed facts of the program that go by it. Conditions: none. -/
import Derived.Test.YtcjicfpdmegckaaRows
import Derived.JoinedOf
import Derived.KernelRfl
namespace Go.Proofs.Ytcjicfpdmegckaa.Init
open Go
def signs : List Char := [104, 97, 114, 110, 101, 115, 115, 32, 48, 49, 48, 56, 99, 48, 55, 49, 97, 56, 54, 54, 99, 53, 53, 97, 57, 51, 52, 52, 57, 54, 101, 100, 97, 50, 98, 51, 51, 56, 55, 99, 56, 55, 49, 50, 55, 50, 49, 98, 97, 97, 100, 100, 97, 51, 100, 100, 100, 52, 97, 50, 98, 54, 54, 55, 55, 56, 52, 52, 97, 52, 50, 97, 32, 99, 117, 116, 32, 97, 116, 32, 115, 99, 117, 108, 108, 101, 114, 47, 115, 99, 117, 108, 108, 101, 114, 108, 97, 119, 48, 49, 46, 87, 111, 114, 100, 65, 100, 100, 115, 32, 115, 99, 117, 108, 108, 101, 114, 47, 115, 99, 117, 108, 108, 101, 114, 108, 97, 119, 48, 50, 46, 67, 114, 99, 83, 117, 109, 115, 32, 115, 99, 117, 108, 108, 101, 114, 47, 115, 99, 117, 108, 108, 101, 114, 108, 97, 119, 48, 50, 46, 67, 114, 99, 83, 112, 108, 105, 116, 32, 115, 99, 117, 108, 108, 101, 114, 47, 115, 99, 117, 108, 108, 101, 114, 108, 97, 119, 49, 53, 46, 75, 101, 101, 112, 76, 97, 115, 116, 115, 32, 115, 99, 117, 108, 108, 101, 114, 47, 115, 99, 117, 108, 108, 101, 114, 108, 97, 119, 48, 55, 46, 65, 114, 101, 110, 97, 80, 108, 97, 99, 101, 115, 32, 115, 99, 117, 108, 108, 101, 114, 47, 115, 99, 117, 108, 108, 101, 114, 108, 97, 119, 48, 55, 46, 65, 114, 101, 110, 97, 87, 105, 116, 104, 105, 110, 32, 115, 99, 117, 108, 108, 101, 114, 47, 115, 99, 117, 108, 108, 101, 114, 108, 97, 119, 49, 53, 46, 75, 101, 101, 112, 79, 114, 100, 101, 114, 32, 115, 99, 117, 108, 108, 101, 114, 47, 115, 99, 117, 108, 108, 101, 114, 108, 97, 119, 49, 53, 46, 75, 101, 101, 112, 67, 111, 112, 121, 32, 115, 99, 117, 108, 108, 101, 114, 47, 115, 99, 117, 108, 108, 101, 114, 108, 97, 119, 48, 55, 46, 65, 114, 101, 110, 97, 65, 115, 107, 115, 32, 115, 99, 117, 108, 108, 101, 114, 47, 115, 99, 117, 108, 108, 101, 114, 108, 97, 119, 48, 55, 46, 65, 114, 101, 110, 97, 67, 117, 116, 115, 32, 115, 99, 117, 108, 108, 101, 114, 47, 115, 99, 117, 108, 108, 101, 114, 108, 97, 119, 48, 55, 46, 65, 114, 101, 110, 97, 83, 112, 111, 105, 108, 32, 115, 99, 117, 108, 108, 101, 114, 47, 115, 99, 117, 108, 108, 101, 114, 108, 97, 119, 48, 55, 46, 65, 114, 101, 110, 97, 77, 111, 115, 116, 32, 115, 99, 117, 108, 108, 101, 114, 47, 115, 99, 117, 108, 108, 101, 114, 108, 97, 119, 49, 50, 46, 77, 97, 110, 105, 84, 101, 108, 108, 115, 32, 115, 99, 117, 108, 108, 101, 114, 47, 115, 99, 117, 108, 108, 101, 114, 108, 97, 119, 49, 50, 46, 77, 97, 110, 105, 77, 111, 115, 116, 32, 115, 99, 117, 108, 108, 101, 114, 47, 115, 99, 117, 108, 108, 101, 114, 108, 97, 119, 49, 51, 46, 80, 97, 99, 107, 66, 97, 99, 107, 32, 115, 99, 117, 108, 108, 101, 114, 47, 115, 99, 117, 108, 108, 101, 114, 108, 97, 119, 49, 51, 46, 80, 97, 99, 107, 67, 117, 116, 32, 115, 99, 117, 108, 108, 101, 114, 47, 115, 99, 117, 108, 108, 101, 114, 108, 97, 119, 49, 51, 46, 80, 97, 99, 107, 79, 110, 99, 101, 32, 115, 99, 117, 108, 108, 101, 114, 47, 115, 99, 117, 108, 108, 101, 114, 108, 97, 119, 49, 51, 46, 80, 97, 99, 107, 70, 105, 101, 108, 100, 115, 32, 115, 99, 117, 108, 108, 101, 114, 47, 115, 99, 117, 108, 108, 101, 114, 108, 97, 119, 48, 55, 46, 65, 114, 101, 110, 97, 66, 97, 99, 107, 32, 115, 99, 117, 108, 108, 101, 114, 47, 115, 99, 117, 108, 108, 101, 114, 108, 97, 119, 49, 51, 46, 80, 97, 99, 107, 67, 111, 100, 101, 115, 32, 115, 99, 117, 108, 108, 101, 114, 47, 115, 99, 117, 108, 108, 101, 114, 108, 97, 119, 49, 51, 46, 80, 97, 99, 107, 83, 97, 109, 101, 32, 115, 99, 117, 108, 108, 101, 114, 47, 115, 99, 117, 108, 108, 101, 114, 108, 97, 119, 49, 52, 46, 84, 111, 107, 101, 110, 67, 111, 100, 101, 115, 32, 115, 99, 117, 108, 108, 101, 114, 47, 115, 99, 117, 108, 108, 101, 114, 108, 97, 119, 49, 52, 46, 84, 111, 107, 101, 110, 66, 97, 99, 107, 32, 115, 99, 117, 108, 108, 101, 114, 47, 115, 99, 117, 108, 108, 101, 114, 108, 97, 119, 49, 52, 46, 84, 111, 107, 101, 110, 66, 105, 116, 115, 32, 115, 99, 117, 108, 108, 101, 114, 47, 115, 99, 117, 108, 108, 101, 114, 108, 97, 119, 49, 52, 46, 84, 111, 107, 101, 110, 79, 110, 99, 101, 32, 115, 99, 117, 108, 108, 101, 114, 47, 115, 99, 117, 108, 108, 101, 114, 108, 97, 119, 49, 52, 46, 84, 111, 107, 101, 110, 70, 111, 114, 109, 32, 115, 99, 117, 108, 108, 101, 114, 47, 115, 99, 117, 108, 108, 101, 114, 108, 97, 119, 49, 52, 46, 84, 111, 107, 101, 110, 67, 117, 116, 32, 115, 99, 117, 108, 108, 101, 114, 47, 115, 99, 117, 108, 108, 101, 114, 108, 97, 119, 49, 50, 46, 77, 97, 110, 105, 79, 114, 100, 101, 114, 32, 115, 99, 117, 108, 108, 101, 114, 47, 115, 99, 117, 108, 108, 101, 114, 108, 97, 119, 49, 53, 46, 75, 101, 101, 112, 84, 111, 107, 101, 110, 32, 115, 99, 117, 108, 108, 101, 114, 47, 115, 99, 117, 108, 108, 101, 114, 108, 97, 119, 49, 50, 46, 77, 97, 110, 105, 67, 117, 116, 115, 32, 115, 99, 117, 108, 108, 101, 114, 47, 115, 99, 117, 108, 108, 101, 114, 108, 97, 119, 49, 50, 46, 77, 97, 110, 105, 87, 104, 111, 108, 101, 32, 115, 99, 117, 108, 108, 101, 114, 47, 115, 99, 117, 108, 108, 101, 114, 108, 97, 119, 49, 53, 46, 75, 101, 101, 112, 68, 111, 101, 115].map Char.ofNat
def row : String := "harness 0108c071a866c55a934496eda2b3387c8712721baadda3ddd4a2b6677844a42a cut at sculler/scullerlaw01.WordAdds sculler/scullerlaw02.CrcSums sculler/scullerlaw02.CrcSplit sculler/scullerlaw15.KeepLasts sculler/scullerlaw07.ArenaPlaces sculler/scullerlaw07.ArenaWithin sculler/scullerlaw15.KeepOrder sculler/scullerlaw15.KeepCopy sculler/scullerlaw07.ArenaAsks sculler/scullerlaw07.ArenaCuts sculler/scullerlaw07.ArenaSpoil sculler/scullerlaw07.ArenaMost sculler/scullerlaw12.ManiTells sculler/scullerlaw12.ManiMost sculler/scullerlaw13.PackBack sculler/scullerlaw13.PackCut sculler/scullerlaw13.PackOnce sculler/scullerlaw13.PackFields sculler/scullerlaw07.ArenaBack sculler/scullerlaw13.PackCodes sculler/scullerlaw13.PackSame sculler/scullerlaw14.TokenCodes sculler/scullerlaw14.TokenBack sculler/scullerlaw14.TokenBits sculler/scullerlaw14.TokenOnce sculler/scullerlaw14.TokenForm sculler/scullerlaw14.TokenCut sculler/scullerlaw12.ManiOrder sculler/scullerlaw15.KeepToken sculler/scullerlaw12.ManiCuts sculler/scullerlaw12.ManiWhole sculler/scullerlaw15.KeepDoes"
theorem row_signs : row = String.ofList signs := by kernel_rfl
theorem head : Try.pinned.checked.prog.initOrder = row := by kernel_rfl
theorem headL : Try.pinned.checked.prog.initOrder.toList = signs := by rw [head, row_signs]; exact String.toList_ofList
theorem mayEnter_of (P : Program) (l : List Char) (h : P.initOrder.toList = l) (d : P.laysLater = false) (e : P.bearsReflect = false) (f : P.doorFits [] = true)
    (h2 : (match behindMainWord (wordsSigns l) with | c :: rest => (stripLifts liftWords (c :: rest)).2.head? == some "cut".toList && (stripLifts liftWords (c :: rest)).1 == [] | [] => false) = true) : P.mayEnter = true := by
  unfold Program.mayEnter
  rw [h]
  cases hb : behindMainWord (wordsSigns l) with
  | nil => rw [hb] at h2; cases h2
  | cons c rest =>
    rw [hb] at h2
    simp only [Bool.and_eq_true, beq_iff_eq] at h2
    obtain ⟨h3, h4⟩ := h2
    simp only [h3, h4, d, e, f]
    simp
theorem make_of (P : Program) (l : List Char) (h : P.initOrder.toList = l)
    (h2 : (match behindMainWord (wordsSigns l) with | c :: _ => (!(c == "gc".toList || c == "spec".toList)) && c == "cut".toList | [] => false) = true) : P.make = some .cut := by
  unfold Program.make
  rw [h]
  cases hb : behindMainWord (wordsSigns l) with
  | nil => rw [hb] at h2; cases h2
  | cons c rest =>
    rw [hb] at h2
    simp only [Bool.and_eq_true, Bool.not_eq_true'] at h2
    obtain ⟨h3, h4⟩ := h2
    simp only [h3, h4, Bool.false_eq_true, if_false, Bool.true_or, if_true]
theorem laysLater : Try.pinned.checked.prog.laysLater = false := by kernel_rfl
theorem bearsReflect : Try.pinned.checked.prog.bearsReflect = false := by kernel_rfl
theorem doorFits : Try.pinned.checked.prog.doorFits [] = true := by kernel_rfl
theorem strip : (match behindMainWord (wordsSigns signs) with | c :: rest => (stripLifts liftWords (c :: rest)).2.head? == some "cut".toList && (stripLifts liftWords (c :: rest)).1 == [] | [] => false) = true := by kernel_rfl
theorem first : (match behindMainWord (wordsSigns signs) with | c :: _ => (!(c == "gc".toList || c == "spec".toList)) && c == "cut".toList | [] => false) = true := by kernel_rfl
theorem mayEnter : Try.pinned.checked.prog.mayEnter = true := mayEnter_of _ _ headL laysLater bearsReflect doorFits strip
theorem make : Try.pinned.checked.prog.make = some .cut := make_of _ _ headL first
theorem liftsFinal : Try.pinned.checked.prog.liftsFinal = false := by
  unfold Program.liftsFinal Program.headLifts
  rw [headL]
  as_aux_lemma => kernel_rfl
end Go.Proofs.Ytcjicfpdmegckaa.Init
