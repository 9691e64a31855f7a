/- TokenOnce: whatever is decoded is encoded as the same bytes, and may be: for every row of bytes (of at most 300; else the law asks nothing more than its example). Conditions: none. -/
import Derived.Test.YtcjicfpdmegckaaKx19
import Derived.Test.YtcjicfpdmegckaaKTokK
import Derived.Test.YtcjicfpdmegckaaKRefCrc
namespace Go.Proofs.Ytcjicfpdmegckaa.Pure
open Go.RowKit Go.Proofs.Ytcjicfpdmegckaa.K Go.Proofs.YtcjicfpdmegckaaW.PrintWords Go.Proofs.YtcjicfpdmegckaaW.PrintLast Go.Proofs.YtcjicfpdmegckaaW.PrintMore Go.Proofs.Ytcjicfpdmegckaa.Num Go.Proofs.Ytcjicfpdmegckaa.CrcN

theorem TokenOnce : scullerlaw14_TokenOnce.Pure := by
  intro l _ _ hw
  have hb := Bytes.of_wf hw
  refine ⟨4000, ?_⟩
  unfold scullerlaw14_TokenOnce.f
  rw [known_eq 4000 (by omega)]
  by_cases h : (l.length : Int) > 300
  · rw [if_pos h]; rfl
  · have hs : scullerref02_Seal.f 4000 l = some (sealed l) := refseal_eq l hb (by omega) 4000 (by omega)
    have hsl := sealed_length l
    rw [if_neg h, hs, Option.bind_some]
    obtain ⟨x, ss, y, kn, e, hd, hkb, _, hc⟩ := dec_any (sealed_bytes hb) (by omega) 4000 (by omega)
    have hR := right_sealed 4000 (by omega) l hb (by omega)
    rw [hd, Option.bind_some]
    dsimp only
    rcases hc with ⟨h1, rfl⟩ | ⟨_, h2, _⟩ | ⟨h1, _, rfl, _⟩ | ⟨h1, _, rfl, ht, he, hx, hy⟩
    · rw [if_neg (by decide), Option.bind_some, if_pos rfl, if_pos (by omega), if_pos rfl]
    · rw [hR] at h2; cases h2
    · rw [if_neg (by decide), Option.bind_some, if_pos rfl, if_neg (by omega), if_pos (by omega)]; rfl
    · have e1 := enc_ok ht hkb (x := x) hy 4000 (by omega)
      obtain ⟨r, e2, hr⟩ := tokRight_eq x ss y kn hkb (by have := ht.2.1; have := chunksN_le ss; omega) 4000 (by omega)
      obtain rfl : r = true := hr.2 ht
      rw [if_pos rfl, e1, Option.bind_some, Option.bind_some, if_pos rfl]
      dsimp only
      rw [if_pos rfl, ← he, if_pos rfl, e2, Option.bind_some]
end Go.Proofs.Ytcjicfpdmegckaa.Pure
