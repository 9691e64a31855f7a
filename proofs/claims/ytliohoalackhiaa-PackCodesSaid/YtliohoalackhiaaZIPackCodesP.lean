/- PackCodes, in plain numbers: Encode, Parse and Same of any datagram and bytes, and of choices, are what the chapter says. Conditions: the kinds of the numbers. -/
import Derived.Test.YtliohoalackhiaaZIRefPack
import Derived.Test.YtliohoalackhiaaZIx17
namespace Go.Proofs.Ytliohoalackhiaa.I
set_option linter.unusedVariables false
open Go.RowKit Go.Proofs.YtliohoalackhiaaW.PrintWords Go.Proofs.YtliohoalackhiaaW.PrintLast Go.Proofs.YtliohoalackhiaaW.PrintMore Go.Proofs.Ytliohoalackhiaa.Num Go.Proofs.Ytliohoalackhiaa.CrcN
theorem isInt_w (x : Int) : isInt (wrap64 x) := by unfold isInt wrap64; omega
theorem gramg_j2 (c : List Int) (hcb : Bytes c) (n : Int) (q : Bool) (kd x i o y : Int) (hkd : isInt kd) (ss : List Int) (k : Nat) (hk : 2 < k) :
    ∃ kd' i' bd, scullerlaw13_Gram.j2 k c n q kd x i o y ss = some (kd', x, i', o, y, ss, bd) ∧ Bytes bd ∧ isInt kd' := by
  obtain ⟨k, rfl⟩ : ∃ q, k = q + 1 := ⟨k - 1, by omega⟩
  have h0 : Bytes ([] : List Int) := fun x hx => by cases hx
  rw [scullerlaw13_Gram.j2]
  cases q with
  | true =>
    obtain ⟨m, hm, hm0, hm1⟩ : ∃ m : Nat, mn (c.length : Int) 64 = (m : Int) ∧ m ≤ c.length ∧ m ≤ 64 := by
      unfold mn
      split
      · exact ⟨64, by omega, by omega, by omega⟩
      · exact ⟨c.length, by omega, by omega, by omega⟩
    rw [if_pos rfl, hm, if_pos (by omega), if_pos (by omega), Int.toNat_natCast, Option.bind_some, if_pos (by rw [List.length_take]; simp only [List.length_nil]; omega), Option.bind_some]
    split
    · exact ⟨_, _, _, rfl, (hcb.take m), isInt_w _⟩
    · exact ⟨_, _, _, rfl, (hcb.take m), hkd⟩
  | false =>
    rw [if_neg (by simp)]
    split
    · exact ⟨_, _, _, rfl, h0, isInt_w _⟩
    · exact ⟨_, _, _, rfl, h0, hkd⟩
theorem gramg_j1 (c : List Int) (hcb : Bytes c) (n : Int) (kd x i o y : Int) (hkd : isInt kd) (ss : List Int) (k : Nat) (hk : 5 < k) :
    ∃ kd' i' bd, scullerlaw13_Gram.j1 k c n kd x i o y ss = some (kd', x, i', o, y, ss, bd) ∧ Bytes bd ∧ isInt kd' := by
  obtain ⟨k, rfl⟩ : ∃ q, k = q + 1 := ⟨k - 1, by omega⟩
  rw [scullerlaw13_Gram.j1]
  split
  · exact gramg_j2 c hcb n _ kd x i o y hkd ss k (by omega)
  · exact gramg_j2 c hcb n _ kd x i o y hkd ss k (by omega)
theorem gramg_l0 (c : List Int) (hcb : Bytes c) (hcl : c.length ≤ 1000) (n : Int) (kd x i o y : Int) (hkd : isInt kd) : ∀ (d k j : Nat) (ss : List Int), j + d = 4 → d + 10 < k → ss.length = j →
    ∃ kd' i' ss' bd, scullerlaw13_Gram.l0 k c n ((2 * j : Nat) : Int) kd x i o y ss = some (kd', x, i', o, y, ss', bd) ∧ Bytes bd ∧ isInt kd' ∧ ss'.length ≤ 4 := by
  intro d
  induction d with
  | zero =>
    intro k j ss hj hk hs
    obtain ⟨k, rfl⟩ : ∃ q, k = q + 1 := ⟨k - 1, by omega⟩
    obtain ⟨kd', i', bd, e, hb, hi⟩ := gramg_j1 c hcb n kd x i o y hkd ss k (by omega)
    rw [scullerlaw13_Gram.l0]
    split
    · rw [if_neg (by omega)]
      exact ⟨_, _, ss, bd, e, hb, hi, by omega⟩
    · exact ⟨_, _, ss, bd, e, hb, hi, by omega⟩
  | succ d ih =>
    intro k j ss hj hk hs
    obtain ⟨k, rfl⟩ : ∃ q, k = q + 1 := ⟨k - 1, by omega⟩
    obtain ⟨kd', i', bd, e, hb, hi⟩ := gramg_j1 c hcb n kd x i o y hkd ss k (by omega)
    rw [scullerlaw13_Gram.l0, w64 (x := ((2 * j : Nat) : Int) + 1) (by omega) (by omega)]
    by_cases hl : ((2 * j : Nat) : Int) + 1 < (c.length : Int)
    · rw [if_pos hl, if_pos (by omega), if_pos (by omega), if_pos (by omega), if_pos (by omega), if_pos (by omega)]
      rw [w64 (x := ((2 * j : Nat) : Int) + 2) (by omega) (by omega), show ((2 * j : Nat) : Int) + 2 = ((2 * (j + 1) : Nat) : Int) by omega]
      exact ih k (j + 1) _ (by omega) (by omega) (by rw [List.length_append, hs]; rfl)
    · rw [if_neg hl]
      exact ⟨_, _, ss, bd, e, hb, hi, by omega⟩
theorem gramg_eq (x y i o : Int) (c : List Int) (hcb : Bytes c) (hcl : c.length ≤ 1000) (n : Int) (k : Nat) (hk : 20 < k) :
    ∃ kd' i' o' ss bd, scullerlaw13_Gram.f k x y i o c n = some (kd', x, i', o', y, ss, bd) ∧ Bytes bd ∧ isInt kd' ∧ ss.length ≤ 4 := by
  unfold scullerlaw13_Gram.f
  have hk1 := isInt_w (1 + wrap64 (Int.tmod n 8))
  split
  · obtain ⟨kd', i', ss, bd, e, hb, hi, hs⟩ := gramg_l0 c hcb hcl n (wrap64 (1 + wrap64 (Int.tmod n 8))) x (wrap64 i) (wrap64 o) y hk1 4 k 0 [] (by omega) (by omega) rfl
    exact ⟨_, _, _, _, _, e, hb, hi, hs⟩
  · obtain ⟨kd', i', bd, e, hb, hi⟩ := gramg_j1 c hcb n (wrap64 (1 + wrap64 (Int.tmod n 8))) x (wrap64 i) (wrap64 o) y hk1 [] k (by omega)
    exact ⟨_, _, _, _, _, e, hb, hi, by simp⟩
theorem ref13_enc_any {kd x i o y : Int} {ss bd : List Int} (hb : Bytes bd) (hx : 0 ≤ x ∧ x ≤ 18446744073709551615) (hy : 0 ≤ y ∧ y ≤ 4294967295) (k : Nat) (hk : 1300 < k) : ∃ z e, scullerref13_Encode.f k kd x i o y ss bd = some (z, e) ∧ Bytes z ∧ z.length ≤ 100 := by
  by_cases h : PackOK kd i o ss bd
  · refine ⟨_, _, ref13_enc_ok h hb hx hy k hk, sealed_bytes (packL_bytes _ _ _ _ _ _ hb), ?_⟩
    obtain ⟨h4, h64, n1, n2⟩ := h.ss4
    rw [sealed_length, packL_length]
    by_cases e : kd = 1
    · rw [n1 e]; simp only [List.length_nil]; omega
    · rw [n2 e]; simp only [List.length_nil]; omega
  · exact ⟨_, _, ref13_enc_no h k (by omega), (fun x hx => by cases hx), (by simp)⟩
theorem refseal_any {l : List Int} (h : Bytes l) (hl : l.length ≤ 500) (k : Nat) (hk : 6000 < k) : scullerref02_Seal.f k l = some (sealed l) := refseal_eq l h (by omega) k (by omega)
theorem bytes_set {l : List Int} (h : Bytes l) (i : Nat) {v : Int} (hv : 0 ≤ v ∧ v ≤ 255) : Bytes (l.set i v) := fun x hx => by
  rcases List.mem_or_eq_of_mem_set hx with h1 | h1
  · exact h x h1
  · rw [h1]; exact hv
theorem packCodes_j1 (k : Nat) (hk : 13000 < k) (b y z : List Int) (hb : Bytes b) (hy : Bytes y) (hz : Bytes z) (hbl : b.length ≤ 300) (hyl : y.length ≤ 100) (hzl : z.length ≤ 100)
    (a0 a1 a2 a3 a4 : Int) (ss bd : List Int) (hbd : Bytes bd) (h0 : isInt a0) (h1 : 0 ≤ a1 ∧ a1 ≤ 18446744073709551615) (h4 : 0 ≤ a4 ∧ a4 ≤ 4294967295) (hsl : ss.length ≤ 40)
    (g0 g1 g2 g3 g4 : Int) (gs gb : List Int) (hgb : Bytes gb) (hg0 : isInt g0) (hg1 : 0 ≤ g1 ∧ g1 ≤ 18446744073709551615) (hg4 : 0 ≤ g4 ∧ g4 ≤ 4294967295) (hgs : gs.length ≤ 4) :
    scullerlaw13_PackCodes.j1 k b y z a0 a1 a2 a3 a4 ss bd g0 g1 g2 g3 g4 gs gb = some true := by
  obtain ⟨k, rfl⟩ : ∃ q, k = q + 1 := ⟨k - 1, by omega⟩
  obtain ⟨m, hm, hm0⟩ : ∃ m : Nat, mx (wrap64 ((z.length : Int) - 4)) 0 = (m : Int) ∧ m ≤ z.length := by
    rw [w64 (by omega) (by omega)]
    unfold mx
    split
    · exact ⟨0, by omega, by omega⟩
    · exact ⟨z.length - 4, by omega, by omega⟩
  have hf := hz.take m
  have hfl : (z.take m).length ≤ 100 := by rw [List.length_take]; omega
  rw [scullerlaw13_PackCodes.j1, hm, if_pos (by omega), if_pos (by omega), Int.toNat_natCast, Option.bind_some, if_pos (by simp only [List.length_nil]; omega), List.nil_append]
  generalize z.take m = fr at hf hfl ⊢
  rw [encodes_true hbd h1 h4 h0 k (by omega), Option.bind_some, if_pos rfl, encodes_true hgb hg1 hg4 hg0 k (by omega), Option.bind_some, if_pos rfl]
  rw [parses_true hb (by omega) k (by omega), Option.bind_some, if_pos rfl, parses_true hy (by omega) k (by omega), Option.bind_some, if_pos rfl, parses_true hz (by omega) k (by omega), Option.bind_some, if_pos rfl]
  rw [refseal_any hf (by omega) k (by omega), Option.bind_some, parses_true (sealed_bytes hf) (by rw [sealed_length]; omega) k (by omega), Option.bind_some, if_pos rfl]
  rw [refseal_any hb (by omega) k (by omega), Option.bind_some, parses_true (sealed_bytes hb) (by rw [sealed_length]; omega) k (by omega), Option.bind_some, if_pos rfl]
  rw [packSame_eq hbd hgb (by omega) k (by omega), Option.bind_some, rpackSame_eq hbd hgb (by omega) k (by omega), Option.bind_some, if_pos (by simp), packSame_eq hgb hgb (by omega) k (by omega), Option.bind_some]
  simp
theorem packCodes_law (a0 a1 a2 a3 a4 : Int) (ss bd b : List Int) (x y i o : Int) (c : List Int) (n at_ v : Int)
    (hbd : Bytes bd) (hb : Bytes b) (hc : Bytes c) (h0 : isInt a0) (h1 : 0 ≤ a1 ∧ a1 ≤ 18446744073709551615) (h4 : 0 ≤ a4 ∧ a4 ≤ 4294967295)
    (hx : 0 ≤ x ∧ x ≤ 18446744073709551615) (hy : 0 ≤ y ∧ y ≤ 4294967295) (hat : 0 ≤ at_ ∧ at_ ≤ 65535) (hv : 0 ≤ v ∧ v ≤ 255) :
    scullerlaw13_PackCodes.f 14000 a0 a1 a2 a3 a4 ss bd b x y i o c n at_ v = some true := by
  have kt : scullerlaw13_PackCodes.j0 14000 b x y i o c n at_ v true a0 a1 a2 a3 a4 ss bd = some true := by
    rw [show (14000 : Nat) = 13999 + 1 from rfl, scullerlaw13_PackCodes.j0, if_pos rfl, pknown_eq 13999 (by omega), Option.bind_some]
  unfold scullerlaw13_PackCodes.f
  rw [kt]
  by_cases c1 : (b.length : Int) > 300
  · rw [if_pos c1]
  by_cases c2 : (bd.length : Int) > 200
  · rw [if_neg c1, if_pos c2]
  by_cases c3 : (ss.length : Int) > 40
  · rw [if_neg c1, if_neg c2, if_pos c3]
  by_cases c4 : (c.length : Int) > 200
  · rw [if_neg c1, if_neg c2, if_neg c3, if_pos c4]
  rw [if_neg c1, if_neg c2, if_neg c3, if_neg c4, pknown_eq 14000 (by omega), Option.bind_some]
  rw [show (14000 : Nat) = 13999 + 1 from rfl, scullerlaw13_PackCodes.j0, if_neg (by simp)]
  obtain ⟨kd', i', o', gs, gb, hg, hgb, hg0, hgs⟩ := gramg_eq x y i o c hc (by omega) n 13999 (by omega)
  obtain ⟨z, e, hz, hzb, hzl⟩ := ref13_enc_any (kd := kd') (i := i') (o := o') (ss := gs) hgb hx hy 13999 (by omega)
  rw [hg, Option.bind_some]
  dsimp only
  rw [hz, Option.bind_some]
  dsimp only
  rw [if_pos (by simp only [List.length_nil]; omega), Option.bind_some, List.nil_append]
  have fin : ∀ z', Bytes z' → z'.length ≤ 100 → scullerlaw13_PackCodes.j1 13999 b z z' a0 a1 a2 a3 a4 ss bd kd' x i' o' y gs gb = some true := fun z' hz' hl' =>
    packCodes_j1 13999 (by omega) b z z' hb hzb hz' (by omega) hzl hl' a0 a1 a2 a3 a4 ss bd hbd h0 h1 h4 (by omega) kd' x i' o' y gs gb hgb hg0 hx hy hgs
  by_cases hz0 : (z.length : Int) > 0
  · have ht : 0 ≤ Int.tmod (wrap64 at_) (z.length : Int) ∧ Int.tmod (wrap64 at_) (z.length : Int) < (z.length : Int) := by
      rw [w64 (by omega) (by omega), tmodn hat.1]
      exact ⟨Int.emod_nonneg _ (by omega), Int.emod_lt_of_pos _ hz0⟩
    rw [if_pos hz0, if_neg (by omega), if_pos ht.1, if_pos ht.2]
    exact fin _ (bytes_set hzb _ hv) (by rw [List.length_set]; omega)
  · rw [if_neg hz0]
    exact fin _ hzb hzl
end Go.Proofs.Ytliohoalackhiaa.I
