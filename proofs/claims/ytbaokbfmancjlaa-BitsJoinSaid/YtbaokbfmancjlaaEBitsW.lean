/- What bits.Within and the document's Or and Within compute. Conditions: those in each theorem. -/
import Derived.Test.YtbaokbfmancjlaaEgWithin
import Derived.Test.YtbaokbfmancjlaaEBitsO
namespace Go.Proofs.Ytbaokbfmancjlaa.E
open Go.RowKit Go.Proofs.YtbaokbfmancjlaaW.PrintWords Go.Proofs.YtbaokbfmancjlaaW.PrintLast Go.Proofs.YtbaokbfmancjlaaW.PrintMore Go.Proofs.Ytbaokbfmancjlaa.Num
set_option linter.unusedVariables false

theorem withinL_spec {b : List Int} (hb : Bytes b) : ∀ (p : List Int), (∀ x ∈ p, 0 ≤ x ∧ x ≤ 9223372036854775807) → ∃ r, withinL b p = some r ∧ (r = true ↔ ∀ x ∈ p, B b x.toNat = true) := by
  intro p
  induction p with
  | nil => intro _; exact ⟨true, rfl, fun _ x hx => (by cases hx), fun _ => rfl⟩
  | cons x t ih =>
    intro h
    obtain ⟨r, e, hr⟩ := ih fun y hy => h y (List.mem_cons_of_mem _ hy)
    have hx := h x (by simp)
    have g : bits_Get.f b x = some (B b x.toNat) := by rw [get_eq hb hx.2, decide_eq_true hx.1, Bool.true_and]
    rw [withinL, g, Option.bind_some]
    cases hB : B b x.toNat with
    | true =>
      rw [if_pos rfl]
      refine ⟨r, e, hr.trans ⟨fun q y hy => ?_, fun q y hy => q y (List.mem_cons_of_mem _ hy)⟩⟩
      rcases List.mem_cons.1 hy with rfl | hy
      · exact hB
      · exact q y hy
    | false =>
      rw [if_neg (by simp)]
      refine ⟨false, rfl, fun q => (by cases q), fun q => ?_⟩
      rw [q x (by simp)] at hB; cases hB
theorem within_spec {a b : List Int} (ha : Bytes a) (hb : Bytes b) (hal : a.length < 140737488355328) : ∃ r, bits_Within.f a b = some r ∧ (r = true ↔ ∀ i, B a i = true → B b i = true) := by
  have hB : bytesB a = true := by
    unfold bytesB
    rw [List.all_eq_true]
    intro x hx
    have := ha x hx
    simpa using this
  unfold bits_Within.f
  rw [if_pos ⟨hal, hB⟩]
  obtain ⟨r, e, hr⟩ := withinL_spec hb (posns 0 a) fun x hx => by
    obtain ⟨i, hi, rfl⟩ := (mem_posns _ _ _).1 hx
    have := B_lt hi
    omega
  refine ⟨r, e, hr.trans ⟨fun q i hi => ?_, fun q x hx => ?_⟩⟩
  · have := q ((i : Nat) : Int) ((mem_posns _ _ _).2 ⟨i, hi, by omega⟩)
    simpa using this
  · obtain ⟨i, hi, rfl⟩ := (mem_posns _ _ _).1 hx
    have := q i hi
    rw [show (0 * 8 + (i : Int)).toNat = i by omega]
    exact this
end Go.Proofs.Ytbaokbfmancjlaa.E
