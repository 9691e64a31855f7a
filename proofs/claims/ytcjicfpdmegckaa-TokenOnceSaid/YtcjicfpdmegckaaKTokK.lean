/- The chapter's example of tokens holds. Conditions: none. -/
import Derived.Test.YtcjicfpdmegckaaKx8
import Derived.Test.YtcjicfpdmegckaaKTokD
import Derived.Test.YtcjicfpdmegckaaKEqInts
namespace Go.Proofs.Ytcjicfpdmegckaa.K
open Go.RowKit Go.Proofs.YtcjicfpdmegckaaW.PrintWords Go.Proofs.YtcjicfpdmegckaaW.PrintLast Go.Proofs.YtcjicfpdmegckaaW.PrintMore Go.Proofs.Ytcjicfpdmegckaa.Num Go.Proofs.Ytcjicfpdmegckaa.CrcN

theorem tokSame_eq {x : Int} {ss : List Int} {y : Int} {kn : List Int} {x' : Int} {ss' : List Int} {y' : Int} {kn' : List Int} (hb : Bytes kn) (hb' : Bytes kn') (hl : ss.length < 9223372036854775807) (k : Nat) (hk : ss.length < k) :
    token_Same.f k x ss y kn x' ss' y' kn' = some (decide (x = x' ∧ y = y' ∧ ss = ss' ∧ kn = kn')) := by
  unfold token_Same.f mani_Same.f
  by_cases h1 : x = x'
  · by_cases h2 : y = y'
    · rw [if_pos h1, if_pos h2, equalInts_eq ss ss' hl k hk, Option.bind_some, Option.bind_some]
      by_cases h3 : ss = ss'
      · rw [if_pos (decide_eq_true h3), equal_eq hb hb', Option.bind_some]
        simp [h1, h2, h3]
      · rw [if_neg (by simpa using h3)]; simp [h3]
    · rw [if_pos h1, if_neg h2]; simp [h2]
  · rw [if_neg h1]; simp [h1]
theorem tok_one : TokOK [1] [0] := by
  have hc : chunksN [1] = 1 := by decide
  refine ⟨by decide, by rw [hc]; rfl, fun i hi => ?_⟩
  rw [show ([0] : List Int) = List.replicate 1 0 from rfl, B_zeros]
theorem bytes_nil : Bytes [] := fun x hx => by cases hx
theorem bytes_zero : Bytes [0] := fun x hx => by simp at hx; omega
theorem known_eq (k : Nat) (hk : 40 < k) : scullerlaw14_known.f k = some true := by
  have e1 := enc_ok tok_one bytes_zero (x := 0) (y := 0) (by omega) k hk
  have e2 := dec_back tok_one bytes_zero (x := 0) (y := 0) (by omega) (by omega) k hk
  obtain ⟨r, e3, hr⟩ := tokRight_eq 0 [] 0 [] bytes_nil (by simp) k (by omega)
  have : r = false := by
    cases r with
    | false => rfl
    | true => exact absurd (hr.1 rfl).1 (by decide)
  subst this
  unfold scullerlaw14_known.f
  rw [Option.bind_some, Option.bind_some, e1, Option.bind_some]
  dsimp only
  rw [e2, Option.bind_some]
  dsimp only
  rw [if_pos rfl, if_pos (by rw [sealed_length, encL_length]; rfl), if_pos rfl, tokSame_eq bytes_zero bytes_zero (by simp) k (by simp; omega), Option.bind_some, if_pos (by simp), e3]
  rfl
end Go.Proofs.Ytcjicfpdmegckaa.K
