/- CrcZeros: rows of noughts of other lengths have other sums, up to a thousand. Conditions: none. -/
import Derived.Test.YtbaokbfmancjlaaBx7
import Derived.Test.YtbaokbfmancjlaaBCrc
namespace Go.Proofs.Ytbaokbfmancjlaa.Pure
open Go.RowKit Go.Proofs.Ytbaokbfmancjlaa.B Go.Proofs.YtbaokbfmancjlaaW.PrintWords Go.Proofs.YtbaokbfmancjlaaW.PrintLast Go.Proofs.YtbaokbfmancjlaaW.PrintMore Go.Proofs.Ytbaokbfmancjlaa.Num Go.Proofs.Ytbaokbfmancjlaa.CrcN

theorem zeros_sum (x : Nat) : crc_Sum.f (List.replicate x 0) = some ((sumN (List.replicate x 0) : Nat) : Int) := by
  rw [sum_eq _ (fun y hy => by have := List.eq_of_mem_replicate hy; omega)]
  simp [nats]
theorem CrcZeros : scullerlaw02_CrcZeros.Pure := by
  intro a b ha hb
  obtain ⟨a0, a1⟩ := bounds_u16 ha
  obtain ⟨b0, b1⟩ := bounds_u16 hb
  refine ⟨10, ?_⟩
  have hk : scullerlaw02_known.f 10 = some true := rfl
  have p0 : 0 ≤ a % 1000 := Int.emod_nonneg _ (by omega)
  have p1 : a % 1000 < 1000 := Int.emod_lt_of_pos _ (by omega)
  have q0 : 0 ≤ b % 1000 := Int.emod_nonneg _ (by omega)
  have q1 : b % 1000 < 1000 := Int.emod_lt_of_pos _ (by omega)
  unfold scullerlaw02_CrcZeros.f
  rw [hk, tmodn a0, tmodn b0, w64 (x := a % 1000) (by omega) (by omega), w64 (x := b % 1000) (by omega) (by omega)]
  obtain ⟨x, hx⟩ : ∃ x : Nat, a % 1000 = (x : Int) := ⟨(a % 1000).toNat, by omega⟩
  obtain ⟨y, hy⟩ : ∃ y : Nat, b % 1000 = (y : Int) := ⟨(b % 1000).toNat, by omega⟩
  rw [hx, hy]
  simp only [Option.bind_some, if_true, Int.toNat_natCast]
  rw [if_pos (by omega), if_pos (by omega), zeros_sum]
  simp only [Option.bind_some]
  rw [if_pos (by omega), if_pos (by omega), zeros_sum]
  simp only [Option.bind_some]
  congr 1
  have h := zeros_apart (x := x) (y := y) (by omega) (by omega)
  by_cases e : x = y
  · subst e; simp
  · have h1 : ¬ sumN (List.replicate x 0) = sumN (List.replicate y 0) := fun h' => e (h.1 h')
    rw [beq_iff_eq, beq_eq_false_iff_ne.2 (by omega), beq_eq_false_iff_ne.2 (by omega)]

end Go.Proofs.Ytbaokbfmancjlaa.Pure
