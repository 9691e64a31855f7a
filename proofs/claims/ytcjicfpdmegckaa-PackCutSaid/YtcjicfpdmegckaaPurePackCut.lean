/- PackCut: of fewer bytes than the least a datagram is too short; one byte more than it has is none, or has its own sum: for every session, sum, choices, byte. Conditions: none. -/
import Derived.Test.YtcjicfpdmegckaaCx9
import Derived.Test.YtcjicfpdmegckaaCPackAll
import Derived.Test.YtcjicfpdmegckaaCCBase
namespace Go.Proofs.Ytcjicfpdmegckaa.Pure
open Go.RowKit Go.Proofs.Ytcjicfpdmegckaa.C Go.Proofs.YtcjicfpdmegckaaW.PrintWords Go.Proofs.YtcjicfpdmegckaaW.PrintLast Go.Proofs.YtcjicfpdmegckaaW.PrintMore Go.Proofs.Ytcjicfpdmegckaa.Num Go.Proofs.Ytcjicfpdmegckaa.CrcN

theorem PackCut : scullerlaw13_PackCut.Pure := by
  intro x y c n a v hx hy hl hl2 hw hn ha hv
  have hcb := Bytes.of_wf hw
  have hx := bounds_u64 hx
  have hy := bounds_u32 hy
  have hn := bounds_u8 hn
  have ha := bounds_u16 ha
  have hv := bounds_u8 hv
  refine ⟨4000, ?_⟩
  unfold scullerlaw13_PackCut.f
  rw [tmodn hn.1]
  obtain ⟨ss, bd, e, hok, hb⟩ := gram_eq x y 1 2 (by omega) (by omega) c hcb (by omega) (n % 230) (by omega) 4000 (by omega)
  rw [e, Option.bind_some]
  dsimp only
  obtain ⟨kd, hkd⟩ : ∃ kd, 1 + n % 230 % 8 = kd := ⟨_, rfl⟩
  rw [hkd] at hok ⊢
  obtain ⟨h4, h64, _, _⟩ := hok.ss4
  have hE := sealed_bytes (packL_bytes kd x 1 2 y ss hb)
  have hEl : (sealed (packL kd x 1 2 y ss bd)).length = 21 + 2 * ss.length + bd.length := by rw [sealed_length, packL_length]; omega
  rw [pack_enc_ok hok hb (x := x) hy 4000 (by omega), Option.bind_some]
  dsimp only
  generalize sealed (packL kd x 1 2 y ss bd) = b at hE hEl ⊢
  rw [if_neg (by omega), w64 (x := a) (by omega) (by omega), tmodn ha.1]
  obtain ⟨m, hm⟩ : ∃ m : Nat, a % 21 = (m : Int) := ⟨(a % 21).toNat, by omega⟩
  have hm1 : m < 21 := by omega
  rw [hm, if_pos (by omega), if_pos (by omega), Int.toNat_natCast, pack_tooshort 4000 (b.take m) (by rw [List.length_take]; omega), Option.bind_some, if_pos (by simp only [List.length_nil]; omega), List.nil_append, Option.bind_some, if_pos (by omega), Option.bind_some]
  have hz : Bytes (b ++ [v]) := hE.append (fun z hz => by rw [List.mem_singleton] at hz; rw [hz]; exact hv)
  have hzl : (b ++ [v]).length = b.length + 1 := by simp
  generalize b ++ [v] = q at hz hzl ⊢
  obtain ⟨kd', x', i2, o', y', ss', bd', e', hd, hbd, hz0, hc⟩ := pack_any hz (by omega) 4000 (by omega)
  rw [hd, Option.bind_some, pknown_eq 4000 (by omega), Option.bind_some, if_pos rfl]
  dsimp only
  rw [if_pos rfl]
  rcases hc with ⟨h1, _⟩ | ⟨_, _, rfl⟩ | ⟨_, _, rfl, _⟩ | ⟨_, _, rfl, hok', he, hx', hy'⟩
  · omega
  · obtain ⟨rfl, _⟩ := hz0 (by decide)
    rw [if_neg (by decide), if_pos rfl]
  · obtain ⟨rfl, _⟩ := hz0 (by decide)
    rw [if_neg (by decide), if_pos rfl]
  · rw [if_pos rfl, w64 (x := (q.length : Int) - 4) (by omega) (by omega), if_pos (by omega), if_pos (by omega), show ((q.length : Int) - 4).toNat = q.length - 4 by omega]
    have ht : q.take (q.length - 4) = packL kd' x' i2 o' y' ss' bd' := by rw [he]; exact sealed_take _
    have hp := packL_length kd' x' i2 o' y' ss' bd'
    obtain ⟨h4', h64', _, _⟩ := hok'.ss4
    rw [ht, refseal_eq _ (packL_bytes _ _ _ _ _ _ hbd) (by omega) 4000 (by omega), Option.bind_some]
    have hs : packL kd' x' i2 o' y' ss' bd' ++ ints (four (sumN (nats (packL kd' x' i2 o' y' ss' bd')))) = q := he.symm
    rw [hs]; simp
end Go.Proofs.Ytcjicfpdmegckaa.Pure
