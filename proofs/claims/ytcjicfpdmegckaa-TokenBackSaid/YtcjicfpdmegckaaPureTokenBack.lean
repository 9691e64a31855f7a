/- TokenBack: what was encoded is decoded as it was; with any byte another one it is none: for every session, choices, place and byte. Conditions: none. -/
import Derived.Test.YtcjicfpdmegckaaKx18
import Derived.Test.YtcjicfpdmegckaaKAre
import Derived.Test.YtcjicfpdmegckaaKBase
namespace Go.Proofs.Ytcjicfpdmegckaa.Pure
open Go.RowKit Go.Proofs.Ytcjicfpdmegckaa.K Go.Proofs.YtcjicfpdmegckaaW.PrintWords Go.Proofs.YtcjicfpdmegckaaW.PrintLast Go.Proofs.YtcjicfpdmegckaaW.PrintMore Go.Proofs.Ytcjicfpdmegckaa.Num Go.Proofs.Ytcjicfpdmegckaa.CrcN

theorem TokenBack : scullerlaw14_TokenBack.Pure := by
  intro x c n m a v hx hl hl2 hw hn hm ha hv
  have hcb := Bytes.of_wf hw
  have hx := bounds_u64 hx
  have hn := bounds_u8 hn
  have hm := bounds_u8 hm
  have ha := bounds_u16 ha
  have hv := bounds_u8 hv
  obtain ⟨k, hk⟩ : ∃ k, c.length + 500000 < k := ⟨_, Nat.lt_succ_self _⟩
  refine ⟨k + 1, ?_⟩
  obtain ⟨ss, y, kn, e1, ht, hb, hy⟩ := tokG x hx c hcb (by omega) n m hn hm (k + 1) (by omega)
  have hc5 := chunksN_le ss
  obtain ⟨_, h16, _, _, _⟩ := (fitsB_iff ss).1 ht.1
  have hE := sealed_bytes (encL_bytes x ss y hb)
  have hEl : (sealed (encL x ss y kn)).length = 17 + 2 * ss.length + kn.length := by rw [sealed_length, encL_length]; omega
  have hkl := ht.2.1
  unfold scullerlaw14_TokenBack.f
  rw [e1, Option.bind_some]
  dsimp only
  rw [enc_ok ht hb (x := x) hy (k + 1) (by omega), Option.bind_some]
  dsimp only
  rw [dec_back ht hb hx hy (k + 1) (by omega), Option.bind_some]
  dsimp only
  rw [if_pos rfl, if_pos rfl, rtokSame_self hb (by omega) (k + 1) (by omega), Option.bind_some]
  have hR := right_sealed k (by omega) (encL x ss y kn) (encL_bytes x ss y hb) (by rw [encL_length]; omega)
  have hback := dec_back ht hb hx hy k (by omega)
  generalize sealed (encL x ss y kn) = b at hE hEl hR hback ⊢
  have m0 := Int.emod_nonneg a (show (b.length : Int) ≠ 0 by omega)
  have m1 := Int.emod_lt_of_pos a (show (b.length : Int) > 0 by omega)
  rw [scullerlaw14_TokenBack.j0, if_neg (by simp), if_neg (by omega), w64 (x := a) (by omega) (by omega), tmodn ha.1, if_pos m0, if_pos m1]
  obtain ⟨i, hi⟩ : ∃ i : Nat, a % (b.length : Int) = (i : Int) := ⟨(a % (b.length : Int)).toNat, by omega⟩
  rw [hi, Int.toNat_natCast, known_eq k (by omega)]
  have hil : i < b.length := by omega
  by_cases hvv : v = rd b (i : Int)
  · have hset : b.set i v = b := by
      rw [hvv]
      unfold rd
      rw [Int.toNat_natCast, List.getD_eq_getElem?_getD, List.getElem?_eq_getElem hil, Option.getD_some]
      exact List.set_getElem_self hil
    rw [hset, hback, Option.bind_some, Option.bind_some, if_pos rfl, if_pos hvv]
    rfl
  · obtain ⟨hbs, hr⟩ := spoilt hE (by omega) k (by omega) hil hv hvv hR
    obtain ⟨x', ss', y', kn', e, hd, _, hz, hc⟩ := dec_any hbs (by rw [List.length_set]; omega) k (by omega)
    rw [List.length_set, hr] at hc
    rcases hc with ⟨h1, _⟩ | ⟨_, _, rfl⟩ | ⟨_, h2, _⟩ | ⟨_, h2, _⟩
    · omega
    · obtain ⟨rfl, rfl, rfl, rfl⟩ := hz (by decide)
      rw [hd, Option.bind_some, Option.bind_some, if_pos rfl, if_neg hvv]
      rfl
    · cases h2
    · cases h2
end Go.Proofs.Ytcjicfpdmegckaa.Pure
