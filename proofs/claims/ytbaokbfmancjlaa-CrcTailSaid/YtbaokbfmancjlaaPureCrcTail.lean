/- CrcTail: for every row of bytes (of at most 300; else the law asks nothing more than its example) and n (uint32), bytes are right just if their last four, the least first, are the sum of those ahead. Conditions: none. -/
import Derived.Test.YtbaokbfmancjlaaBx6
import Derived.Test.YtbaokbfmancjlaaBCrc
namespace Go.Proofs.Ytbaokbfmancjlaa.Pure
open Go.RowKit Go.Proofs.Ytbaokbfmancjlaa.B Go.Proofs.YtbaokbfmancjlaaW.PrintWords Go.Proofs.YtbaokbfmancjlaaW.PrintLast Go.Proofs.YtbaokbfmancjlaaW.PrintMore Go.Proofs.Ytbaokbfmancjlaa.Num Go.Proofs.Ytbaokbfmancjlaa.CrcN

theorem CrcTail : scullerlaw02_CrcTail.Pure := by
  intro l n hl hl2 hw hn
  obtain ⟨n0, n1⟩ := bounds_u32 hn
  have hb := Bytes.of_wf hw
  obtain ⟨m, rfl⟩ : ∃ m : Nat, n = (m : Int) := ⟨n.toNat, by omega⟩
  have hm : m < 4294967296 := by omega
  refine ⟨10, ?_⟩
  have hk : scullerlaw02_known.f 10 = some true := rfl
  have hs := sumN_lt (nats l) (nats_lt hb)
  unfold scullerlaw02_CrcTail.f
  rw [hk]
  by_cases h : (l.length : Int) > 300
  · rw [if_pos h]; rfl
  · rw [if_neg h, sum_eq l hb]
    have h4 : ([(m : Int) % 256, (m : Int) / 256 % 256, (m : Int) / 65536 % 256, (m : Int) / 16777216 % 256] : List Int) = ints (four m) := by simp [ints, four]
    rw [h4]
    simp only [Option.bind_some, List.nil_append, if_true]
    rw [if_pos (by simp; omega)]
    have hlen : (ints (four m)).length = 4 := rfl
    rw [if_pos (by rw [hlen]; omega), right_four 10 (by omega) l hb (by omega) m hm, seal_eq 10 (by omega) l hb (by omega)]
    simp only [Option.bind_some, List.length_append, w64 (x := (l.length : Int) + 4) (by omega) (by omega)]
    have e : (decide (sumN (nats l) = m) == ((m : Int) == ((sumN (nats l) : Nat) : Int))) = true := by
      by_cases h : sumN (nats l) = m
      · rw [h]; simp
      · rw [decide_eq_false h, beq_iff_eq]
        exact (beq_eq_false_iff_ne.2 (by omega)).symm
    rw [e, if_pos rfl]
    simp [ints, four]

end Go.Proofs.Ytbaokbfmancjlaa.Pure
