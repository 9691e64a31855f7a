/- TokenCodes, in plain numbers: Right, Encode, Decode and Same of any token and bytes, and of choices, are what the chapter says. Conditions: the kinds of the numbers. -/
import Derived.Test.YtliohoalackhiaaVJRefTok
import Derived.Test.YtliohoalackhiaaVJx24
namespace Go.Proofs.Ytliohoalackhiaa.J
set_option linter.unusedVariables false
open Go.RowKit Go.Proofs.YtliohoalackhiaaW.PrintWords Go.Proofs.YtliohoalackhiaaW.PrintLast Go.Proofs.YtliohoalackhiaaW.PrintMore Go.Proofs.Ytliohoalackhiaa.Num Go.Proofs.Ytliohoalackhiaa.CrcN
theorem bytes_set {l : List Int} (h : Bytes l) (i : Nat) {v : Int} (hv : 0 ≤ v ∧ v ≤ 255) : Bytes (l.set i v) := fun x hx => by
  rcases List.mem_or_eq_of_mem_set hx with h1 | h1
  · exact h x h1
  · rw [h1]; exact hv
theorem refseal_any {l : List Int} (h : Bytes l) (hl : l.length ≤ 500) (k : Nat) (hk : 6000 < k) : scullerref02_Seal.f k l = some (sealed l) := refseal_eq l h (by omega) k (by omega)
theorem tokenCodes_law (a0 : Int) (ss : List Int) (a2 : Int) (kn b : List Int) (x : Int) (c : List Int) (n m at_ v : Int)
    (hkn : Bytes kn) (hb : Bytes b) (hc : Bytes c) (hcl : c.length ≤ 140737488351232) (h0 : 0 ≤ a0 ∧ a0 ≤ 18446744073709551615) (h2 : 0 ≤ a2 ∧ a2 ≤ 4294967295)
    (hx : 0 ≤ x ∧ x ≤ 18446744073709551615) (hn : 0 ≤ n ∧ n ≤ 255) (hm : 0 ≤ m ∧ m ≤ 255) (hat : 0 ≤ at_ ∧ at_ ≤ 65535) (hv : 0 ≤ v ∧ v ≤ 255) :
    scullerlaw14_TokenCodes.f (c.length + 600000) a0 ss a2 kn b x c n m at_ v = some true := by
  have kt : scullerlaw14_TokenCodes.j0 (c.length + 600000) b x c n m at_ v true a0 ss a2 kn = some true := by
    rw [show c.length + 600000 = (c.length + 599999) + 1 from rfl, scullerlaw14_TokenCodes.j0, if_pos rfl, known_eq _ (by omega), Option.bind_some]
  unfold scullerlaw14_TokenCodes.f
  rw [kt]
  by_cases c1 : (b.length : Int) > 300
  · rw [if_pos c1]
  by_cases c2 : (kn.length : Int) > 100
  · rw [if_neg c1, if_pos c2]
  by_cases c3 : (ss.length : Int) > 40
  · rw [if_neg c1, if_neg c2, if_pos c3]
  rw [if_neg c1, if_neg c2, if_neg c3, known_eq _ (by omega), Option.bind_some]
  obtain ⟨k, hk⟩ : ∃ k, k = c.length + 599999 := ⟨_, rfl⟩
  rw [show c.length + 600000 = k + 1 by omega, scullerlaw14_TokenCodes.j0, if_neg (by simp)]
  obtain ⟨gs, gy, gk, hg, hok, hgb, hgy⟩ := tokG x hx c hc hcl n m hn hm k (by omega)
  have h16 := hok.ss
  have hk100 := hok.kn
  have hzb := sealed_bytes (encL_bytes x gs gy hgb)
  have hzl : (sealed (encL x gs gy gk)).length = 17 + 2 * gs.length + gk.length := by rw [sealed_length, encL_length]; omega
  rw [hg, Option.bind_some]
  dsimp only
  rw [ref14_enc_ok hok hgb hx hgy k (by omega), Option.bind_some]
  dsimp only
  generalize sealed (encL x gs gy gk) = z at hzb hzl ⊢
  have ht : 0 ≤ Int.tmod (wrap64 at_) (z.length : Int) ∧ Int.tmod (wrap64 at_) (z.length : Int) < (z.length : Int) := by
    rw [w64 (by omega) (by omega), tmodn hat.1]
    exact ⟨Int.emod_nonneg _ (by omega), Int.emod_lt_of_pos _ (by omega)⟩
  rw [if_pos (by simp only [List.length_nil]; omega), Option.bind_some, List.nil_append, if_neg (by omega), if_pos ht.1, if_pos ht.2, Option.bind_some]
  have hsb := bytes_set hzb (Int.tmod (wrap64 at_) (z.length : Int)).toNat hv
  have hsl : (z.set (Int.tmod (wrap64 at_) (z.length : Int)).toNat v).length ≤ 200 := by rw [List.length_set]; omega
  generalize z.set (Int.tmod (wrap64 at_) (z.length : Int)).toNat v = s at hsb hsl ⊢
  rw [tok_encodes hkn (by omega) h0 h2 k (by omega), Option.bind_some, if_pos rfl, tok_encodes hgb hk100 hx hgy k (by omega), Option.bind_some, if_pos rfl]
  rw [tok_decodes hb (by omega) k (by omega), Option.bind_some, if_pos rfl, tok_decodes hzb (by omega) k (by omega), Option.bind_some, if_pos rfl, tok_decodes hsb (by omega) k (by omega), Option.bind_some, if_pos rfl]
  rw [w64 (x := (z.length : Int) - 4) (by omega) (by omega), if_pos (by omega), if_pos (by omega)]
  have hfb := hsb.take ((z.length : Int) - 4).toNat
  have hfl : (s.take ((z.length : Int) - 4).toNat).length ≤ 200 := by rw [List.length_take]; omega
  generalize s.take ((z.length : Int) - 4).toNat = f at hfb hfl ⊢
  rw [refseal_any hfb (by omega) k (by omega), Option.bind_some, tok_decodes (sealed_bytes hfb) (by rw [sealed_length]; omega) k (by omega), Option.bind_some, if_pos rfl]
  rw [refseal_any hb (by omega) k (by omega), Option.bind_some, tok_decodes (sealed_bytes hb) (by rw [sealed_length]; omega) k (by omega), Option.bind_some, if_pos rfl]
  rw [tokSame_eq hkn hgb (by omega) k (by omega), Option.bind_some, rtokSame_eq hkn hgb (by omega) k (by omega), Option.bind_some]
  simp
end Go.Proofs.Ytliohoalackhiaa.J
