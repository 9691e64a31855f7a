/- WordFronts: for every slice of bytes (of at most 60; else the law asks nothing more than its example) and n (uint8), a row of more than eight bytes is its first eight; noughts behind change nothing. Conditions: none. -/
import Derived.Test.YtbaokbfmancjlaaAx5
import Derived.Test.YtbaokbfmancjlaaAPut
namespace Go.Proofs.Ytbaokbfmancjlaa.Pure
open Go.RowKit Go.Proofs.Ytbaokbfmancjlaa.A Go.Proofs.YtbaokbfmancjlaaW.PrintWords Go.Proofs.YtbaokbfmancjlaaW.PrintLast Go.Proofs.YtbaokbfmancjlaaW.PrintMore Go.Proofs.Ytbaokbfmancjlaa.Num

theorem WordFronts : scullerlaw01_WordFronts.Pure := by
  intro l k hl hl2 hw hk
  obtain ⟨k0, k1⟩ := bounds_u8 hk
  have hb := Bytes.of_wf hw
  refine ⟨10, ?_⟩
  have h10 : scullerlaw01_known.f 10 = some true := by decide +kernel
  have m0 : 0 ≤ k % 20 := Int.emod_nonneg _ (by omega)
  have m1 : k % 20 < 20 := Int.emod_lt_of_pos _ (by omega)
  unfold scullerlaw01_WordFronts.f
  rw [h10]
  by_cases h60 : (l.length : Int) > 60
  · rw [if_pos h60]; rfl
  · rw [if_neg h60, tmodn k0, w64 (x := k % 20) (by omega) (by omega)]
    obtain ⟨z, hz⟩ : ∃ z : Nat, k % 20 = (z : Int) := ⟨(k % 20).toNat, by omega⟩
    rw [hz]
    have e2 : mn (l.length : Int) 8 = ((min l.length 8 : Nat) : Int) := by unfold mn; split <;> omega
    have hbz : Bytes (l ++ List.replicate z 0) := fun x hx => by
      rcases List.mem_append.1 hx with h | h
      · exact hb x h
      · have := List.eq_of_mem_replicate h; omega
    have hg : getL ((l ++ List.replicate z 0).take 8) = getL (l.take 8) := by
      rw [List.take_append, getL_append, List.take_replicate, getL_zeros]; omega
    have hm : (l.take (min l.length 8)).take 8 = l.take 8 := by
      rw [List.take_take]
      by_cases h : l.length ≤ 8
      · rw [List.take_of_length_le (by omega), List.take_of_length_le h]
      · rw [show min 8 (min l.length 8) = 8 by omega]
    have a1 : asked (-3) = 0 := by decide
    have a2 : asked 99 = 8 := by decide
    rw [if_pos (by simp; omega)]
    simp only [Option.bind_some, List.nil_append, Int.toNat_natCast]
    rw [if_pos (by omega), if_pos (by omega)]
    simp only [if_true, e2, Int.toNat_natCast, get_eq l hb, get_eq _ hbz, get_eq _ (hb.take _), put_eq 10 (by omega), a1, a2, hg, hm, Option.bind_some, putL_length]
    rw [if_pos (by omega), if_pos (by omega)]
    simp

end Go.Proofs.Ytbaokbfmancjlaa.Pure
