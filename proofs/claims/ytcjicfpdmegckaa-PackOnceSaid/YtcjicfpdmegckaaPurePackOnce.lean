/- PackOnce: whatever is parsed is encoded as the same bytes: for every row of bytes (of at most 300; else the law asks nothing more than its example). Conditions: none. -/
import Derived.Test.YtcjicfpdmegckaaPx10
import Derived.Test.YtcjicfpdmegckaaPPackAll
import Derived.Test.YtcjicfpdmegckaaPPBase
namespace Go.Proofs.Ytcjicfpdmegckaa.Pure
open Go.RowKit Go.Proofs.Ytcjicfpdmegckaa.P Go.Proofs.YtcjicfpdmegckaaW.PrintWords Go.Proofs.YtcjicfpdmegckaaW.PrintLast Go.Proofs.YtcjicfpdmegckaaW.PrintMore Go.Proofs.Ytcjicfpdmegckaa.Num Go.Proofs.Ytcjicfpdmegckaa.CrcN

theorem PackOnce : scullerlaw13_PackOnce.Pure := by
  intro l _ _ _ hw _
  have hb := Bytes.of_wf hw
  refine ⟨4000, ?_⟩
  unfold scullerlaw13_PackOnce.f
  rw [pknown_eq 4000 (by omega)]
  by_cases h : (l.length : Int) > 300
  · rw [if_pos h]; rfl
  · have hs : scullerref02_Seal.f 4000 l = some (sealed l) := refseal_eq l hb (by omega) 4000 (by omega)
    have hsl := sealed_length l
    rw [if_neg h, hs, Option.bind_some]
    obtain ⟨kd, x, i, o, y, ss, bd, e, hd, hbd, hz, hc⟩ := pack_any (sealed_bytes hb) (by omega) 4000 (by omega)
    have hR := right_sealed 4000 (by omega) l hb (by omega)
    rw [hd, Option.bind_some]
    dsimp only
    rcases hc with ⟨h1, rfl⟩ | ⟨_, h2, _⟩ | ⟨h1, _, rfl, _⟩ | ⟨h1, _, rfl, hok, he, hx, hy⟩
    · obtain ⟨rfl, _⟩ := hz (by decide)
      rw [if_neg (by decide), Option.bind_some, if_pos rfl, if_pos (by omega), if_pos rfl]; rfl
    · rw [hR] at h2; cases h2
    · obtain ⟨rfl, _⟩ := hz (by decide)
      rw [if_neg (by decide), Option.bind_some, if_pos rfl, if_neg (by omega), if_pos (by omega), if_pos rfl]; rfl
    · have e1 := pack_enc_ok hok hbd (x := x) hy 4000 (by omega)
      rw [if_pos rfl, e1, Option.bind_some, Option.bind_some, if_pos rfl]
      dsimp only
      rw [if_pos rfl, ← he]; simp
end Go.Proofs.Ytcjicfpdmegckaa.Pure
