/- PackFields: a field that is too great, or that the kind has not, may not be: for every session, choices. Conditions: none. -/
import Derived.Test.YtcjicfpdmegckaaFx7
import Derived.Test.YtcjicfpdmegckaaFPackAll
namespace Go.Proofs.Ytcjicfpdmegckaa.Pure
open Go.RowKit Go.Proofs.Ytcjicfpdmegckaa.F Go.Proofs.YtcjicfpdmegckaaW.PrintWords Go.Proofs.YtcjicfpdmegckaaW.PrintLast Go.Proofs.YtcjicfpdmegckaaW.PrintMore Go.Proofs.Ytcjicfpdmegckaa.Num Go.Proofs.Ytcjicfpdmegckaa.CrcN

theorem PackFields : scullerlaw13_PackFields.Pure := by
  intro x c n m hx hl hl2 hw hn hm
  have hcb := Bytes.of_wf hw
  have hn := bounds_u8 hn
  have hm := bounds_u8 hm
  refine ⟨100, ?_⟩
  unfold scullerlaw13_PackFields.f
  rw [tmodn hn.1, tmodn hm.1]
  obtain ⟨ss, bd, e, hok, hb⟩ := gram_eq x 7 1 2 (by omega) (by omega) c hcb (by omega) (n % 8) (by omega) 100 (by omega)
  rw [e, Option.bind_some]
  dsimp only
  obtain ⟨kd, hkd⟩ : ∃ kd, 1 + n % 8 % 8 = kd := ⟨_, rfl⟩
  rw [hkd] at hok ⊢
  have hk1 := hok.k
  have hi : isInt kd := isInt_any (by omega) (by omega)
  rw [pknown_eq 100 (by omega)]
  have n0 : ¬ PackOK kd 65536 2 ss bd := fun h => by have := h.i; omega
  have n1 : ¬ PackOK kd 1 (-1) ss bd := fun h => by have := h.o; omega
  have n2 : ¬ PackOK kd 1 2 [1, 1, 1, 1, 1] bd := fun h => by have := h.s; simp at this; split at this <;> omega
  have n3 : ¬ PackOK kd 1 2 ss (List.replicate 65 0) := fun h => by have := h.b; rw [List.length_replicate] at this; split at this <;> omega
  have n4 : ¬ PackOK 9 1 2 ss bd := fun h => by have := h.k; omega
  have n5 : ¬ PackOK kd 1 2 [4097] bd := fun h => by have := h.m 4097 (by simp); omega
  rw [pack_enc_no n0 hi, pack_enc_no n1 hi, pack_enc_no n2 hi, pack_enc_no n3 hi, pack_enc_no n4 (isInt_any (by omega) (by omega)), pack_enc_no n5 hi]
  simp
end Go.Proofs.Ytcjicfpdmegckaa.Pure
