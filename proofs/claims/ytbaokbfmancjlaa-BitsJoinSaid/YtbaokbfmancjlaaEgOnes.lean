/- bits.OnesCount8 tells how many bits of a byte are set: for every byte, in whatever memory. -/
import Derived.WalkKit
import Derived.Lib.Hide
import Derived.Lib.BitFns
import Derived.WalkLawsBesides
import Derived.Test.YtbaokbfmancjlaaEx0
namespace Go.Proofs.Ytbaokbfmancjlaa.E
open Go.RowKit Go.Proofs.YtbaokbfmancjlaaW.PrintWords Go.Proofs.YtbaokbfmancjlaaW.PrintMore
set_option linter.unusedVariables false
set_option linter.unusedSimpArgs false
/-- how many bits of a byte are set -/
def bits_OnesCount8.f (a0 : Int) : Option (Int) := if 0 ≤ a0 ∧ a0 ≤ 255 then some (Lib.onesCount a0.toNat : Int) else none
set_option maxRecDepth 100000 in
theorem bits_OnesCount8.calls (a0 : Int) (r : Int) (w : World) (h : bits_OnesCount8.f a0 = some r) :
    Calls Try.prog 75 #[.int .u8 a0] w fun e w' => e = .returned (.int .i64 r) ∧ Drawn0 w w' := by
  unfold bits_OnesCount8.f at h
  by_cases hl : 0 ≤ a0 ∧ a0 ≤ 255
  · rw [if_pos hl] at h
    obtain rfl := Option.some.inj h
    obtain ⟨tv, htv⟩ : ∃ tv, (Lib.onesCount a0.toNat : Int) = tv := ⟨_, rfl⟩
    rw [htv]
    have he := Lib.hid (show wrap64 (Lib.pop8 a0) = tv by
      rw [← htv, ← Lib.pop8_int a0 hl.1 hl.2]; generalize Lib.pop8 a0 = z; simp only [wrap64] <;> omega)
    have h0 := hl.1; have h1 := hl.2
    clear htv hl
    go_enter Try.func75, Try.ntmps75
    go_wp2
    go_ret
    exact ⟨congrArg (fun v => Ending.returned (Value.int IntKind.i64 v)) he.out, by repeat (first | exact Drawn0.refl _ | apply Drawn0.step)⟩
  · rw [if_neg hl] at h; cases h
end Go.Proofs.Ytbaokbfmancjlaa.E
