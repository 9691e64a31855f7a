/- The example of the chapter on sums of bytes: the call answers true, in whatever memory. -/
import Derived.WalkKit
import Derived.Lib.Hide
import Derived.Lib.SlBytesConst
import Derived.WalkLawsBesides
import Derived.Test.YtcjicfpdmegckaaYx2
import Derived.Test.YtcjicfpdmegckaaYx2
namespace Go.Proofs.Ytcjicfpdmegckaa.Y
open Go.RowKit Go.Proofs.YtcjicfpdmegckaaW.PrintWords Go.Proofs.YtcjicfpdmegckaaW.PrintMore Go.Proofs.YtcjicfpdmegckaaW.PrintLast
set_option linter.unusedVariables false
set_option linter.unusedSimpArgs false
/-- With nine rounds and more: true. -/
def scullerlaw02_known.f (k : Nat) : Option (Bool) := if k < 9 then none else some true
theorem scullerlaw02_known.mono : ∀ k, LeO (scullerlaw02_known.f k) (scullerlaw02_known.f (k + 1)) := by
  intro k r h
  unfold scullerlaw02_known.f at *
  split at h
  · cases h
  · rw [if_neg (by omega)]; exact h
def sealed : List Int := [97, 48, 67, 208, 193]
theorem sum9 : crc_Sum.f [49, 50, 51, 52, 53, 54, 55, 56, 57] = some 3808858755 := by decide +kernel
theorem seal_a : crc_Seal.f 9 [97] = some sealed := by decide +kernel
theorem right_a : crc_Right.f 9 sealed = some true := by decide +kernel
theorem right_abc : crc_Right.f 9 [97, 98, 99] = some false := by decide +kernel
/-- A constant's bytes, in a block that bears the run time's mark, read as they are. -/
theorem reads_const (w : World) (cs : List Int) (t : TypeId) (n : Nat) (hn : n = cs.length) (m : Nat × Nat) (hl : cs.length ≤ 9223372036854775807) :
    Kd.C (Kd.int .u8) (w.alloc (.cells (cs.map (Value.int .u8)).toArray t m)) (some ⟨w.heap.size, 0, none⟩) cs.length cs := by
  refine Kd.C_of_reads (enc := Value.int .u8) (d := (0 : Int)) (h1 := fun _ => rfl) ⟨rfl, hl, fun _ => ⟨_, rfl, fun j hj => ?_⟩⟩
  have : (w.alloc (.cells (cs.map (Value.int .u8)).toArray t m)).heap[w.heap.size]? = some (.cells (cs.map (Value.int .u8)).toArray t m) := by
    show (w.heap.push _)[w.heap.size]? = _
    simp
  rw [add_plain]
  unfold World.cell?
  rw [this]
  simp [List.getD_eq_getElem?_getD, hj]
set_option maxRecDepth 100000 in
set_option maxHeartbeats 2000000 in
theorem scullerlaw02_known.calls (k : Nat) (r : Bool) (w : World) (h : scullerlaw02_known.f k = some r) :
    Calls Try.prog 41 #[] w fun e w' => e = .returned (.bool r) ∧ Below w.heap.size w w' := by
  have hr : r = true := by
    unfold scullerlaw02_known.f at h
    split at h
    · cases h
    · exact (Option.some.inj h).symm
  subst hr
  clear h
  have kc := fun (w : World) (C : Array Value) (n c : Nat) => Lib.run_convert_bytes_const (P := Try.prog) w 29 5 C n c Try.underlying29 Try.underlying5
  go_enter Try.func41, Try.ntmps41
  go_wp2_with fail
  refine (crc_Sum.calls _ _ [49, 50, 51, 52, 53, 54, 55, 56, 57] _ _ (reads_const w [49, 50, 51, 52, 53, 54, 55, 56, 57] _ _ rfl _ (by simp)) (by simp) sum9).mono ?_
  rintro e w1 ⟨rfl, hb1⟩
  have n1 := Aside0.mk (below_step (below_alloc (Below.refl _ _) _) hb1)
  clear hb1
  go_wp2_with fail
  refine (crc_Seal.calls 9 _ _ [97] _ _ (reads_const w1 [97] _ _ rfl _ (by simp)) (by simp) seal_a).mono ?_
  rintro e w2 ⟨v, rfl, ho, hb2⟩
  have n2 := Aside0.mk (below_step (below_alloc n1.out _) hb2)
  obtain ⟨A, c, rfl, hc, hC⟩ := Kd.R_reads ho
  have H := Aside0.mk hC
  clear hb2 ho n1 hC
  go_wp2_with fail
  refine (crc_Right.calls 9 _ _ sealed _ _ H.out hc right_a).mono ?_
  rintro e w3 ⟨rfl, hb3⟩
  have n3 := Aside0.mk (below_step n2.out hb3)
  clear hb3 n2 H hc
  go_wp2_with fail
  refine (crc_Right.calls 9 _ _ [97, 98, 99] _ _ (reads_const w3 [97, 98, 99] _ _ rfl _ (by simp)) (by simp) right_abc).mono ?_
  rintro e w4 ⟨rfl, hb4⟩
  have n4 := Aside0.mk (below_step (below_alloc n3.out _) hb4)
  clear hb4 n3
  go_wp2
  go_ret
  exact ⟨rfl, n4.out⟩
end Go.Proofs.Ytcjicfpdmegckaa.Y
