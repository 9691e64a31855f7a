/- TokenCut: cut off, even with a sum of its own, a token is none; nor is it with a segment more: for every session, choices and place. Conditions: none. -/
import Derived.Test.YtcjicfpdmegckaaUx17
import Derived.Test.YtcjicfpdmegckaaUUAre
import Derived.Test.YtcjicfpdmegckaaUUTok
import Derived.Test.YtcjicfpdmegckaaUUBase
namespace Go.Proofs.Ytcjicfpdmegckaa.Pure
open Go.RowKit Go.Proofs.Ytcjicfpdmegckaa.U Go.Proofs.YtcjicfpdmegckaaW.PrintWords Go.Proofs.YtcjicfpdmegckaaW.PrintLast Go.Proofs.YtcjicfpdmegckaaW.PrintMore Go.Proofs.Ytcjicfpdmegckaa.Num Go.Proofs.Ytcjicfpdmegckaa.CrcN

theorem TokenCut : scullerlaw14_TokenCut.Pure := by
  intro x c n m a hx hl hl2 hw hn hm ha
  have hcb := Bytes.of_wf hw
  have hx := bounds_u64 hx
  have hn := bounds_u8 hn
  have hm := bounds_u8 hm
  have ha := bounds_u8 ha
  obtain ⟨k, hk⟩ : ∃ k, c.length + 500000 < k := ⟨_, Nat.lt_succ_self _⟩
  refine ⟨k, ?_⟩
  obtain ⟨ss, y, kn, e1, ht, hb, hy⟩ := tokG x hx c hcb (by omega) n m hn hm k (by omega)
  have hc5 := chunksN_le ss
  have hc1 := chunksN_pos ht.1
  obtain ⟨h1, h16, _, _, _⟩ := (fitsB_iff ss).1 ht.1
  have hfm := fits_mem ht.1
  have hkl := ht.2.1
  have hEl : (sealed (encL x ss y kn)).length = 17 + 2 * ss.length + kn.length := by rw [sealed_length, encL_length]; omega
  have hEn := encL_length x ss y kn
  have t1 : (sealed (encL x ss y kn)).take ((sealed (encL x ss y kn)).length - 5) = encL x ss y kn.dropLast := by
    have hne : kn ≠ [] := fun h => by rw [h] at hkl; simp at hkl; omega
    have e0 : encL x ss y kn = encL x ss y kn.dropLast ++ [kn.getLast hne] := by
      unfold encL; rw [List.append_assoc _ kn.dropLast, List.dropLast_concat_getLast]
    have e2 : sealed (encL x ss y kn) = encL x ss y kn.dropLast ++ ([kn.getLast hne] ++ ints (four (sumN (nats (encL x ss y kn))))) := by
      conv => lhs; unfold sealed; rw [e0]
      rw [List.append_assoc, ← e0]
    rw [hEl, e2]
    exact List.take_left' (by rw [encL_length, List.length_dropLast]; omega)
  have t2 : (sealed (encL x ss y kn)).take ((sealed (encL x ss y kn)).length - 4) = encL x ss y kn := sealed_take _
  have d1 := dec_other (x := x) (ss := ss) (y := y) (kn := kn.dropLast) (fun h => by have := h.2.1; rw [List.length_dropLast] at this; omega) (fun z hz => hb z (List.dropLast_subset _ hz)) hx hy h16 hfm (by rw [List.length_dropLast]; omega) k (by omega)
  have d2 := dec_other (x := x) (ss := ss) (y := y) (kn := kn ++ [0]) (fun h => by have := h.2.1; rw [List.length_append, List.length_singleton] at this; omega) (hb.append bytes_zero) hx hy h16 hfm (by rw [List.length_append, List.length_singleton]; omega) k (by omega)
  have s1 : scullerref02_Seal.f k (encL x ss y kn.dropLast) = some (sealed (encL x ss y kn.dropLast)) := refseal_eq _ (encL_bytes x ss y (fun z hz => hb z (List.dropLast_subset _ hz))) (by rw [encL_length, List.length_dropLast]; omega) k (by rw [encL_length, List.length_dropLast]; omega)
  have e3 : encL x ss y kn ++ [0] = encL x ss y (kn ++ [0]) := by unfold encL; rw [List.append_assoc]
  have s2 : scullerref02_Seal.f k (encL x ss y (kn ++ [0])) = some (sealed (encL x ss y (kn ++ [0]))) := refseal_eq _ (encL_bytes x ss y (hb.append bytes_zero)) (by rw [encL_length, List.length_append, List.length_singleton]; omega) k (by rw [encL_length, List.length_append, List.length_singleton]; omega)
  have hsb := sealed_bytes (encL_bytes x ss y hb)
  unfold scullerlaw14_TokenCut.f
  rw [e1, Option.bind_some]
  dsimp only
  rw [enc_ok ht hb (x := x) hy k (by omega), Option.bind_some]
  dsimp only
  generalize sealed (encL x ss y kn) = b at hEl t1 t2 hsb ⊢
  have w5 : wrap64 ((b.length : Int) - 5) = ((b.length - 5 : Nat) : Int) := by rw [w64 (by omega) (by omega)]; omega
  have w4 : wrap64 ((b.length : Int) - 4) = ((b.length - 4 : Nat) : Int) := by rw [w64 (by omega) (by omega)]; omega
  have m0 := Int.emod_nonneg a (show (17 : Int) ≠ 0 by omega)
  have m1 := Int.emod_lt_of_pos a (show (17 : Int) > 0 by omega)
  rw [if_neg (by omega), w5, if_pos (by omega), if_pos (by omega), Int.toNat_natCast, t1, s1, Option.bind_some, d1, Option.bind_some, w4, if_pos (by omega), if_pos (by omega), Int.toNat_natCast, t2, Option.bind_some, if_pos (by simp only [List.length_nil]; omega), Option.bind_some, List.nil_append,
    if_pos (by omega), e3, s2, Option.bind_some, d2, Option.bind_some, w64 (x := a) (by omega) (by omega), tmodn ha.1, if_pos m0, if_pos (by omega)]
  obtain ⟨x', ss', y', kn', e, hd, _, hz, hc⟩ := dec_any (b := b.take (a % 17).toNat) (hsb.take _) (by rw [List.length_take]; omega) k (by omega)
  have hlt : (b.take (a % 17).toNat).length < 17 := by rw [List.length_take]; omega
  have he : e = 10 := by
    rcases hc with ⟨_, h⟩ | ⟨h, _⟩ | ⟨h, _⟩ | ⟨h, _⟩ <;> omega
  subst he
  rw [hd, Option.bind_some, known_eq k (by omega), Option.bind_some, if_pos rfl, if_pos rfl, if_pos rfl, if_pos rfl, tokSame_eq hb bytes_nil (by omega) k (by omega), Option.bind_some]
  have : ss ≠ [] := fun h => by rw [h] at h1; simp at h1
  simp [this]
end Go.Proofs.Ytcjicfpdmegckaa.Pure
