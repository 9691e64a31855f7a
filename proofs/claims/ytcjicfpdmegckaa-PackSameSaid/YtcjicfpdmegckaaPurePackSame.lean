/- PackSame: two datagrams are the same just if their bytes are: for every session, choices. Conditions: none. -/
import Derived.Test.YtcjicfpdmegckaaEx8
import Derived.Test.YtcjicfpdmegckaaEx7
import Derived.Test.YtcjicfpdmegckaaEPackAll
import Derived.Test.YtcjicfpdmegckaaEEBase
namespace Go.Proofs.Ytcjicfpdmegckaa.Pure
open Go.RowKit Go.Proofs.Ytcjicfpdmegckaa.E Go.Proofs.YtcjicfpdmegckaaW.PrintWords Go.Proofs.YtcjicfpdmegckaaW.PrintLast Go.Proofs.YtcjicfpdmegckaaW.PrintMore Go.Proofs.Ytcjicfpdmegckaa.Num Go.Proofs.Ytcjicfpdmegckaa.CrcN

theorem packSame_eq {kd x i o y : Int} {ss bd : List Int} {kd' x' i' o' y' : Int} {ss' bd' : List Int} (hb : Bytes bd) (hb' : Bytes bd') (hl : ss.length < 9223372036854775807) (k : Nat) (hk : ss.length < k) :
    pack_Same.f k kd x i o y ss bd kd' x' i' o' y' ss' bd' = some (decide (kd = kd' ∧ x = x' ∧ i = i' ∧ o = o' ∧ y = y' ∧ ss = ss' ∧ bd = bd')) := by
  unfold pack_Same.f
  rw [equalInts_eq ss ss' hl k hk, equal_eq hb hb']
  by_cases h1 : kd = kd'
  · by_cases h2 : x = x'
    · by_cases h3 : i = i'
      · by_cases h4 : o = o'
        · by_cases h5 : y = y'
          · by_cases h6 : ss = ss'
            · simp [h1, h2, h3, h4, h5, h6]
            · simp [h1, h2, h3, h4, h5, h6]
          · simp [h1, h2, h3, h4, h5]
        · simp [h1, h2, h3, h4]
      · simp [h1, h2, h3]
    · simp [h1, h2]
  · simp [h1]
theorem PackSame : scullerlaw13_PackSame.Pure := by
  intro x z c d n m hx hz hl hl2 hw hd hd2 hw2 hn hm
  have hcb := Bytes.of_wf hw
  have hdb := Bytes.of_wf hw2
  have hx := bounds_u64 hx
  have hn := bounds_u8 hn
  have hm := bounds_u8 hm
  have h0 : Bytes ([] : List Int) := fun x hx => by cases hx
  refine ⟨400, ?_⟩
  unfold scullerlaw13_PackSame.f
  rw [tmodn hn.1, tmodn hm.1]
  obtain ⟨ss, bd, e, hok, hb⟩ := gram_eq x 7 1 2 (by omega) (by omega) c hcb (by omega) (n % 8) (by omega) 400 (by omega)
  rw [e, Option.bind_some]
  dsimp only
  have hne : ¬ IntKind.u64.wrap (Int.tmod x 3 + 1) = 0 := by
    rw [tmodn hx.1, u64id (by omega) (by omega)]; omega
  rw [if_neg hne]
  have hw64 : ∀ q, 0 ≤ IntKind.u64.wrap q ∧ IntKind.u64.wrap q ≤ 18446744073709551615 := fun q => by simp [IntKind.wrap, IntKind.bits, IntKind.signed]; omega
  have hx' := hw64 (Int.tmod z (IntKind.u64.wrap (Int.tmod x 3 + 1)) + x)
  generalize IntKind.u64.wrap (Int.tmod z (IntKind.u64.wrap (Int.tmod x 3 + 1)) + x) = x' at hx' ⊢
  obtain ⟨ss', bd', e', hok', hb'⟩ := gram_eq x' 7 1 2 (by omega) (by omega) d hdb (by omega) (m % 8) (by omega) 400 (by omega)
  rw [e', Option.bind_some]
  dsimp only
  generalize 1 + n % 8 % 8 = kd at hok ⊢
  generalize 1 + m % 8 % 8 = kd' at hok' ⊢
  obtain ⟨h4, h64, _, _⟩ := hok.ss4
  obtain ⟨h4', h64', _, _⟩ := hok'.ss4
  have hE := sealed_bytes (packL_bytes kd x 1 2 7 ss hb)
  have hE' := sealed_bytes (packL_bytes kd' x' 1 2 7 ss' hb')
  have p := pack_back hok hb (x := x) hx (y := 7) (by omega) 400 (by omega)
  have p' := pack_back hok' hb' (x := x') hx' (y := 7) (by omega) 400 (by omega)
  have hiff : sealed (packL kd x 1 2 7 ss bd) = sealed (packL kd' x' 1 2 7 ss' bd') ↔ (kd = kd' ∧ x = x' ∧ (1 : Int) = 1 ∧ (2 : Int) = 2 ∧ (7 : Int) = 7 ∧ ss = ss' ∧ bd = bd') := by
    constructor
    · intro h
      rw [h, p'] at p
      simp only [Option.some.injEq, Prod.mk.injEq] at p
      obtain ⟨a1, a2, _, _, _, a3, a4, _⟩ := p
      exact ⟨a1.symm, a2.symm, rfl, rfl, rfl, a3.symm, a4.symm⟩
    · rintro ⟨rfl, rfl, _, _, _, rfl, rfl⟩; rfl
  rw [pack_enc_ok hok hb (x := x) (by omega) 400 (by omega), Option.bind_some]
  dsimp only
  rw [pack_enc_ok hok' hb' (x := x') (by omega) 400 (by omega), Option.bind_some]
  dsimp only
  rw [pknown_eq 400 (by omega), Option.bind_some, if_pos rfl, if_pos rfl, if_pos rfl, packSame_eq hb hb' (by omega) 400 (by omega), Option.bind_some, packSame_eq hb' hb' (by omega) 400 (by omega), packSame_eq h0 h0 (by simp) 400 (by simp)]
  have hstr : ((strOfNums (sealed (packL kd x 1 2 7 ss bd))).toList == (strOfNums (sealed (packL kd' x' 1 2 7 ss' bd'))).toList) = decide (sealed (packL kd x 1 2 7 ss bd) = sealed (packL kd' x' 1 2 7 ss' bd')) := str_eq hE hE'
  have hd2 : decide (kd = kd' ∧ x = x' ∧ (1 : Int) = 1 ∧ (2 : Int) = 2 ∧ (7 : Int) = 7 ∧ ss = ss' ∧ bd = bd') = decide (sealed (packL kd x 1 2 7 ss bd) = sealed (packL kd' x' 1 2 7 ss' bd')) := decide_eq_decide.mpr hiff.symm
  have hxw : ¬ x = IntKind.u64.wrap (x + 1) := by simp [IntKind.wrap, IntKind.bits, IntKind.signed]; omega
  rw [hstr, hd2, if_pos (by simp), Option.bind_some, if_pos (by simp), Option.bind_some]
  simp [hxw]
end Go.Proofs.Ytcjicfpdmegckaa.Pure
