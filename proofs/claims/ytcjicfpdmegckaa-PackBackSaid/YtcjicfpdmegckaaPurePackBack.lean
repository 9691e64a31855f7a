/- PackBack: what was encoded is parsed as it was; with any byte another one it is none: for every session, choices, place and byte. Conditions: none. -/
import Derived.Test.YtcjicfpdmegckaaPx8
import Derived.Test.YtcjicfpdmegckaaPPackAll
import Derived.Test.YtcjicfpdmegckaaPPBase
namespace Go.Proofs.Ytcjicfpdmegckaa.Pure
open Go.RowKit Go.Proofs.Ytcjicfpdmegckaa.P Go.Proofs.YtcjicfpdmegckaaW.PrintWords Go.Proofs.YtcjicfpdmegckaaW.PrintLast Go.Proofs.YtcjicfpdmegckaaW.PrintMore Go.Proofs.Ytcjicfpdmegckaa.Num Go.Proofs.Ytcjicfpdmegckaa.CrcN

theorem PackBack : scullerlaw13_PackBack.Pure := by
  intro x y i o c n a v hx hy hi ho hl hl2 hw hn ha hv
  have hcb := Bytes.of_wf hw
  have hx := bounds_u64 hx
  have hy := bounds_u32 hy
  have hi := bounds_u16 hi
  have ho := bounds_u16 ho
  have hn := bounds_u8 hn
  have ha := bounds_u16 ha
  have hv := bounds_u8 hv
  obtain ⟨k, hk⟩ : ∃ k, 100 < k := ⟨101, by omega⟩
  refine ⟨k + 1, ?_⟩
  unfold scullerlaw13_PackBack.f
  rw [tmodn hn.1]
  obtain ⟨ss, bd, e, hok, hb⟩ := gram_eq x y i o hi ho c hcb (by omega) (n % 230) (by omega) (k + 1) (by omega)
  rw [e, Option.bind_some]
  dsimp only
  obtain ⟨kd, hkd⟩ : ∃ kd, 1 + n % 230 % 8 = kd := ⟨_, rfl⟩
  rw [hkd] at hok ⊢
  obtain ⟨h4, h64, _, _⟩ := hok.ss4
  have hE := sealed_bytes (packL_bytes kd x i o y ss hb)
  have hEl : (sealed (packL kd x i o y ss bd)).length = 21 + 2 * ss.length + bd.length := by rw [sealed_length, packL_length]; omega
  rw [pack_enc_ok hok hb (x := x) hy (k + 1) (by omega), Option.bind_some]
  dsimp only
  rw [pack_back hok hb hx hy (k + 1) (by omega), Option.bind_some]
  dsimp only
  rw [if_pos rfl, if_pos rfl, rpackSame_self (by omega) (k + 1) (by omega), Option.bind_some, if_pos rfl]
  have hR := right_sealed k (by omega) (packL kd x i o y ss bd) (packL_bytes kd x i o y ss hb) (by rw [packL_length]; omega)
  have hback := pack_back hok hb hx hy k (by omega)
  generalize sealed (packL kd x i o y ss bd) = b at hE hEl hR hback ⊢
  have m0 := Int.emod_nonneg a (show (b.length : Int) ≠ 0 by omega)
  have m1 := Int.emod_lt_of_pos a (show (b.length : Int) > 0 by omega)
  rw [scullerlaw13_PackBack.j0, decide_eq_false (by omega), if_neg (by simp), if_neg (by omega), w64 (x := a) (by omega) (by omega), tmodn ha.1, if_pos m0, if_pos m1]
  obtain ⟨i', hi'⟩ : ∃ i : Nat, a % (b.length : Int) = (i : Int) := ⟨(a % (b.length : Int)).toNat, by omega⟩
  rw [hi', Int.toNat_natCast, pknown_eq k (by omega)]
  have hil : i' < b.length := by omega
  by_cases hvv : v = rd b (i' : Int)
  · have hset : b.set i' v = b := by
      rw [hvv]
      unfold rd
      rw [Int.toNat_natCast, List.getD_eq_getElem?_getD, List.getElem?_eq_getElem hil, Option.getD_some]
      exact List.set_getElem_self hil
    rw [hset, hback, Option.bind_some, Option.bind_some, if_pos rfl, if_pos hvv]
    rfl
  · obtain ⟨hbs, hr⟩ := spoilt hE (by omega) k (by omega) hil hv hvv hR
    obtain ⟨kd', x', i2, o', y', ss', bd', e', hd, _, hz, hc⟩ := pack_any hbs (by rw [List.length_set]; omega) k (by omega)
    rw [List.length_set, hr] at hc
    rcases hc with ⟨h1, _⟩ | ⟨_, _, rfl⟩ | ⟨_, h2, _⟩ | ⟨_, h2, _⟩
    · omega
    · obtain ⟨rfl, _⟩ := hz (by decide)
      rw [hd, Option.bind_some, Option.bind_some, if_pos rfl, if_neg hvv]
      rfl
    · cases h2
    · cases h2
end Go.Proofs.Ytcjicfpdmegckaa.Pure
