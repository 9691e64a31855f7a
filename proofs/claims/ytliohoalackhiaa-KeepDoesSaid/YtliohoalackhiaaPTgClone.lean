/- bytes.Clone hands back the same bytes in new memory: for every slice of bytes of fewer than 2^47 bytes. -/
import Derived.WalkKit
import Derived.Lib.Hide
import Derived.Lib.LazyBuf
import Derived.OpenShut
import Derived.Deep.DeepMust
import Derived.Deep.RegionWith
import Derived.Deep.Draws
import Derived.StillTailTactics
import Derived.WalkLawsBesides
import Derived.Test.YtliohoalackhiaaPTx0
namespace Go.Proofs.Ytliohoalackhiaa.T
open Go.RowKit Go.Proofs.YtliohoalackhiaaW.PrintWords Go.Proofs.YtliohoalackhiaaW.PrintMore
set_option linter.unusedVariables false
set_option linter.unusedSimpArgs false
def bytes_Clone.f (l0 : List Int) : Option (List Int) := if l0.length < 140737488355328 then some l0 else none
set_option maxRecDepth 100000 in
set_option maxHeartbeats 2000000 in
theorem bytes_Clone.calls (A0 : Option Addr) (c0 : Nat) (l0 : List Int) (r : List Int) (w : World) (hr0 : Kd.C (Kd.int .u8) w A0 l0.length l0) (hc0 : l0.length ≤ c0) (h : bytes_Clone.f l0 = some r) :
    Calls Try.prog 67 #[.slice A0 l0.length c0] w fun e w' => ∃ v0_ : Value, e = .returned (v0_) ∧ Kd.R (Kd.int .u8) 5 w' w.heap.size (fun _ => True) v0_ r ∧ Below w.heap.size w w' := by
  unfold bytes_Clone.f at h
  by_cases hl : l0.length < 140737488355328
  · rw [if_pos hl] at h
    obtain rfl := Option.some.inj h
    clear h
    have HL := Aside0.mk hl
    have HR0 := Aside0.mk hr0
    clear hl hr0
    cases A0 with
    | none =>
      have hz : l0.length = 0 := by
        rcases Nat.eq_zero_or_pos l0.length with h0 | h0
        · exact h0
        · obtain ⟨ad, h, _⟩ := HR0.out.2.2 h0; cases h
      obtain rfl : l0 = [] := List.eq_nil_of_length_eq_zero hz
      have hnil : ∀ w : World, (binOp .eql 22 (.slice none 0 c0) (.slice none 0 0)).run Try.prog w = .ok (.bool true) w := fun w => Go.run_eql_slice_nil (P := Try.prog) w 22 5 none 0 c0 Try.underlying22
      go_enter Try.func67, Try.ntmps67
      go_wp2
      go_ret
      exact ⟨_, rfl, Kd.R_nil _ _ _ _ _, Below.refl _ _⟩
    | some ad =>
      have hnil : ∀ w : World, (binOp .eql 22 (.slice (some ad) l0.length c0) (.slice none 0 0)).run Try.prog w = .ok (.bool false) w := fun w => Go.run_eql_slice_nil (P := Try.prog) w 22 5 (some ad) l0.length c0 Try.underlying22
      go_enter Try.func67, Try.ntmps67
      have HO0 : Kd.R (Kd.int .u8) 5 (w.alloc (.cells #[] 5)) w.heap.size (fun _ => True) (.slice (some ⟨w.heap.size, 0, none⟩) 0 0) [] := by
        have hm := own_made w w.heap.size 5 .u8 0 (Nat.le_refl _) (by omega)
        have he : (madeCells #[Value.int .u8 0] 0) = #[] := by kernel_rfl
        rw [he] at hm
        exact Kd.R_of_own (xs := []) hm (fun _ _ => trivial)
      have HO := Aside0.mk HO0
      clear HO0
      go_wp2_with (at_builtin; go_loud (refine Kd.R_append_rows (Kd.int .u8) (w0 := w) w.heap.size rfl (.tmp 5) (.tmp 6) 22 5 (.int .u8 0) 1 rfl Try.underlying22 info5 rfl (by decide) (by omega) (.slice (some ⟨w.heap.size, 0, none⟩) 0 0) ([] : List Int) l0 _ _ _ (fun _ => True) (fun _ => False) rfl rfl ?aO ?aR (fun _ _ h => h) (fun _ h => h.elim) ?aF ?aB ?aS ?aL ?_); (case aR => go_must (exact Kd.C_alloc HR0.out _)); (case aB => go_must (exact (Below.refl _ _).alloc (Nat.le_refl _) _)); (case aF => exact (fun _ _ => trivial)); (case aS => go_must (simp)); (case aL => go_must (have := HL.out; (try simp only [List.length_nil]); omega)); (case aO => go_must (exact HO.out)); intro v1 w1 ho hb hg hat)
      go_ret
      exact ⟨_, rfl, ho, hb⟩
  · rw [if_neg hl] at h
    cases h
end Go.Proofs.Ytliohoalackhiaa.T
