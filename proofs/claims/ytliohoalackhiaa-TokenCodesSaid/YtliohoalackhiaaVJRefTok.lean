/- What the document's Right, Encode, Decode and Same of a token compute, in plain lists of bytes: just what the program's do. Conditions: those in each theorem. -/
import Derived.Test.YtliohoalackhiaaVJx18
import Derived.Test.YtliohoalackhiaaVJx22
import Derived.Test.YtliohoalackhiaaVJx16
import Derived.Test.YtliohoalackhiaaVJx19
import Derived.Test.YtliohoalackhiaaVJgDecodes
import Derived.Test.YtliohoalackhiaaVJJAre
import Derived.Test.YtliohoalackhiaaVJJBase
import Derived.Test.YtliohoalackhiaaVJJTok
namespace Go.Proofs.Ytliohoalackhiaa.J
set_option linter.unusedVariables false
open Go.RowKit Go.Proofs.YtliohoalackhiaaW.PrintWords Go.Proofs.YtliohoalackhiaaW.PrintLast Go.Proofs.YtliohoalackhiaaW.PrintMore Go.Proofs.Ytliohoalackhiaa.Num Go.Proofs.Ytliohoalackhiaa.CrcN
theorem refright_loop {l : List Int} (hb : Bytes l) (hl : l.length < 100000) : ∀ (d k i : Nat), 8 * l.length ≤ i + d → i ≤ 8 * l.length + 65536 → d + 10 < k → ∃ r, scullerref03_Right.l0 k l (i : Int) = some r ∧ (r = true ↔ ∀ j, i ≤ j → B l j = false) := by
  intro d
  induction d with
  | zero =>
    intro k i hi hi2 hk
    obtain ⟨k, rfl⟩ : ∃ j, k = j + 1 := ⟨k - 1, by omega⟩
    rw [scullerref03_Right.l0, w64 (by omega) (by omega), if_neg (by omega)]
    exact ⟨_, rfl, fun _ j hj => B_out (by omega), fun _ => rfl⟩
  | succ d ih =>
    intro k i hi hi2 hk
    obtain ⟨k, rfl⟩ : ∃ j, k = j + 1 := ⟨k - 1, by omega⟩
    rw [scullerref03_Right.l0, w64 (x := 8 * (l.length : Int)) (by omega) (by omega)]
    by_cases h : (i : Int) < 8 * (l.length : Int)
    · rw [if_pos h, refget_nat hb (by omega) k (by omega), Option.bind_some]
      cases hB : B l i with
      | true =>
        rw [if_pos rfl]
        exact ⟨_, rfl, fun h => (by cases h), fun h => by rw [h i (Nat.le_refl _)] at hB; cases hB⟩
      | false =>
        rw [if_neg (by simp), w64 (by omega) (by omega)]
        obtain ⟨r, e, hr⟩ := ih k (i + 1) (by omega) (by omega) (by omega)
        refine ⟨r, e, hr.trans ⟨fun h j hj => ?_, fun h j hj => h j (by omega)⟩⟩
        by_cases e : j = i
        · subst e; exact hB
        · exact h j (by omega)
    · rw [if_neg h]
      exact ⟨_, rfl, fun _ j hj => B_out (by omega), fun _ => rfl⟩
theorem refright_nat {l : List Int} (hb : Bytes l) (hl : l.length < 100000) {n : Nat} (hn : n ≤ 65536) (k : Nat) (hk : 8 * l.length + 20 < k) : ∃ r, scullerref03_Right.f k l (n : Int) = some r ∧ (r = true ↔ l.length = (n + 7) / 8 ∧ ∀ i, n ≤ i → B l i = false) := by
  obtain ⟨n', hn', e1, e2, e3⟩ := make_any (n : Int)
  rw [clamp_self hn] at e1
  obtain rfl : n = n' := by omega
  unfold scullerref03_Right.f
  rw [if_neg (by omega), if_neg (by omega), e3 k (by omega), Option.bind_some, List.length_replicate]
  obtain ⟨k, rfl⟩ : ∃ j, k = j + 1 := ⟨k - 1, by omega⟩
  rw [scullerref03_Right.j0]
  by_cases hq : l.length = (n + 7) / 8
  · rw [if_neg (by rw [← hq]; simp)]
    obtain ⟨r2, f2, hr2⟩ := refright_loop hb hl (8 * l.length) k n (by omega) (by omega) (by omega)
    exact ⟨r2, f2, hr2.trans ⟨fun h => ⟨hq, h⟩, fun h => h.2⟩⟩
  · rw [if_pos (by simp; omega)]
    exact ⟨false, rfl, ⟨fun h => (by cases h), fun h => absurd h.1 hq⟩⟩
theorem rtokRight_eq (x : Int) (ss : List Int) (y : Int) (kn : List Int) (hb : Bytes kn) (hl : kn.length < 100000) (k : Nat) (hk : 8 * kn.length + 30 < k) : ∃ r, scullerref14_Right.f k x ss y kn = some r ∧ (r = true ↔ TokOK ss kn) := by
  unfold scullerref14_Right.f scullerref12_Right.f
  rw [rfits_eq ss k (by omega), Option.bind_some, Option.bind_some]
  by_cases h : fitsB ss = true
  · rw [if_pos h, rchunks_eq x ss y k (by omega), Option.bind_some]
    obtain ⟨r, e, hr⟩ := refright_nat hb hl (n := chunksN ss) (by have := chunksN_le ss; omega) k (by omega)
    exact ⟨r, by rw [e]; rfl, hr.trans ⟨fun q => ⟨h, q⟩, fun q => q.2⟩⟩
  · rw [if_neg h]
    exact ⟨false, rfl, ⟨fun q => (by cases q), fun q => absurd q.1 h⟩⟩
theorem ref14_put (l : List Int) (hl : l.length < 1000) (n : Int) (h0 : 0 ≤ n) (h1 : n ≤ 18446744073709551615) (m : Nat) (hm : m ≤ 8) (k : Nat) (hk : 8 < k) : scullerref14_put.f k l n (m : Int) = some (l ++ putL n m) := by
  unfold scullerref14_put.f
  rw [if_pos (by simp; omega), Option.bind_some, ref_put_eq k hk n _ h0 h1, Option.bind_some, asked_nat hm, List.nil_append, if_pos (by rw [putL_length]; omega)]
theorem ref14_enc_l0 (x : Int) (ss : List Int) (y : Int) (kn : List Int) (hm : ∀ x ∈ ss, 0 ≤ x ∧ x ≤ 4096) (hl : ss.length ≤ 16) (hbl : kn.length ≤ 100) : ∀ (d k j : Nat) (z : List Int), j + d = ss.length → d + 2500 < k → z.length ≤ 13 + 2 * j → Bytes z → Bytes kn →
    scullerref14_Encode.l0 k z (j : Int) x ss y kn = some (sealed (z ++ (twos (ss.drop j) ++ kn)), 0) := by
  intro d
  induction d with
  | zero =>
    intro k j z hj hk hz hzb hb
    obtain ⟨k, rfl⟩ : ∃ q, k = q + 1 := ⟨k - 1, by omega⟩
    rw [scullerref14_Encode.l0, if_neg (by omega), if_pos (by omega), List.drop_of_length_le (by omega)]
    rw [refseal_eq _ (hzb.append hb) (by rw [List.length_append]; omega) k (by rw [List.length_append]; omega), Option.bind_some]; rfl
  | succ d ih =>
    intro k j z hj hk hz hzb hb
    obtain ⟨k, rfl⟩ : ∃ q, k = q + 1 := ⟨k - 1, by omega⟩
    obtain ⟨m0, m1⟩ := hm (rd ss (j : Int)) (by
      unfold rd
      rw [Int.toNat_natCast, List.getD_eq_getElem?_getD, List.getElem?_eq_getElem (show j < ss.length by omega)]
      exact List.getElem_mem _)
    have hd := drop_rd' (s := ss) (i := j) (by omega)
    generalize hv : rd ss (j : Int) = v at m0 m1 hd
    have h := ih k (j + 1) (z ++ putL v 2) (by omega) (by omega) (by rw [List.length_append, putL_length]; omega) (hzb.append (putL_bytes _ _)) hb
    rw [show ((j + 1 : Nat) : Int) = (j : Int) + 1 by omega] at h
    have hp : scullerref14_put.f k z v 2 = some (z ++ putL v 2) := ref14_put z (by omega) v m0 (by omega) 2 (by omega) k (by omega)
    rw [scullerref14_Encode.l0, if_pos (by omega), if_pos (by omega), hv, u64id m0 (by omega), hp, Option.bind_some, w64 (x := (j : Int) + 1) (by omega) (by omega), h, hd]
    simp only [twos, List.append_assoc]
theorem TokOK.kn {ss kn : List Int} (h : TokOK ss kn) : kn.length ≤ 100 := by
  have := h.2.1
  have := chunksN_le ss
  omega
theorem TokOK.ss {ss kn : List Int} (h : TokOK ss kn) : ss.length ≤ 16 := ((fitsB_iff ss).1 h.1).2.1
theorem ref14_enc_ok {x : Int} {ss : List Int} {y : Int} {kn : List Int} (h : TokOK ss kn) (hb : Bytes kn) (hx : 0 ≤ x ∧ x ≤ 18446744073709551615) (hy : 0 ≤ y ∧ y ≤ 4294967295) (k : Nat) (hk : 3000 < k) : scullerref14_Encode.f k x ss y kn = some (sealed (encL x ss y kn), 0) := by
  have h16 := h.ss
  have hkn := h.kn
  obtain ⟨r, e, hr⟩ := rtokRight_eq x ss y kn hb (by omega) k (by omega)
  obtain rfl : r = true := hr.2 h
  have e1 : scullerref14_put.f k [] x 8 = some ([] ++ putL x 8) := ref14_put [] (by simp) x (by omega) (by omega) 8 (by omega) k (by omega)
  have e2 : scullerref14_put.f k ([] ++ putL x 8) y 4 = some (([] ++ putL x 8) ++ putL y 4) := ref14_put _ (by simp only [List.length_append, putL_length, List.length_nil]; omega) y (by omega) (by omega) 4 (by omega) k (by omega)
  have e3 : scullerref14_put.f k (([] ++ putL x 8) ++ putL y 4) (ss.length : Int) 1 = some ((([] ++ putL x 8) ++ putL y 4) ++ putL (ss.length : Int) 1) := ref14_put _ (by simp only [List.length_append, putL_length, List.length_nil]; omega) _ (by omega) (by omega) 1 (by omega) k (by omega)
  have hl0 := ref14_enc_l0 x ss y kn (fits_mem h.1) h16 hkn ss.length k 0 ((([] ++ putL x 8) ++ putL y 4) ++ putL (ss.length : Int) 1) (by omega) (by omega) (by simp only [List.length_append, putL_length, List.length_nil]; omega)
    (((Bytes.append (fun x hx => by cases hx) (putL_bytes _ _)).append (putL_bytes _ _)).append (putL_bytes _ _)) hb
  rw [show ((0 : Nat) : Int) = 0 from rfl, List.drop_zero] at hl0
  unfold scullerref14_Encode.f
  rw [e, Option.bind_some, if_pos rfl, u64id (x := y) (by omega) (by omega), u64id (x := (ss.length : Int)) (by omega) (by omega), e1, Option.bind_some, e2, Option.bind_some, e3, Option.bind_some, hl0]
  unfold encL
  simp only [List.nil_append, List.append_assoc]
theorem ref14_enc_no {x : Int} {ss : List Int} {y : Int} {kn : List Int} (h : ¬ TokOK ss kn) (hb : Bytes kn) (hl : kn.length < 100000) (k : Nat) (hk : 8 * kn.length + 30 < k) : scullerref14_Encode.f k x ss y kn = some ([], 1) := by
  obtain ⟨r, e, hr⟩ := rtokRight_eq x ss y kn hb hl k hk
  have : r = false := by cases r with | false => rfl | true => exact absurd (hr.1 rfl) h
  subst this
  unfold scullerref14_Encode.f
  rw [e]; rfl
/-- The two Encodes are one, and the two Rights. -/
theorem tok_encodes {x : Int} {ss : List Int} {y : Int} {kn : List Int} (hb : Bytes kn) (hl : kn.length ≤ 100) (hx : 0 ≤ x ∧ x ≤ 18446744073709551615) (hy : 0 ≤ y ∧ y ≤ 4294967295) (k : Nat) (hk : 3000 < k) : scullerlaw14_encodes.f k x ss y kn = some true := by
  obtain ⟨r, e, hr⟩ := rtokRight_eq x ss y kn hb (by omega) k (by omega)
  obtain ⟨r', e', hr'⟩ := tokRight_eq x ss y kn hb (by omega) k (by omega)
  have hrr : r' = r := by
    have := hr'.trans hr.symm
    cases r <;> cases r' <;> simp at this <;> rfl
  unfold scullerlaw14_encodes.f
  by_cases h : TokOK ss kn
  · rw [enc_ok h hb hy k (by omega), Option.bind_some, ref14_enc_ok h hb hx hy k hk, Option.bind_some, e, e', hrr, Option.bind_some, Option.bind_some, if_pos (by simp), if_pos rfl]; simp [wrap64]
  · rw [enc_no h hb (by omega) k (by omega), Option.bind_some, ref14_enc_no h hb (by omega) k (by omega), Option.bind_some, e, e', hrr, Option.bind_some, Option.bind_some, if_pos (by simp), if_pos rfl]; simp [wrap64]
theorem midD_app (a b c : List Int) (lo hi : Nat) (ha : a.length = lo) (hb : a.length + b.length = hi) : midD (a ++ (b ++ c)) lo hi = b := by
  unfold midD
  rw [← List.append_assoc, List.take_left' (by rw [List.length_append]; exact hb), ← ha, List.drop_left]
theorem midD_bytes {l : List Int} (h : Bytes l) (lo hi : Nat) : Bytes (midD l lo hi) := (h.take _).drop _
theorem ref14_get (l : List Int) (h : Bytes l) (k : Nat) (hk : 8 < k) : scullerref01_Get.f k l = some (getN l) := by
  rw [ref_get_eq k hk l h, getN_eq h]
theorem dsizes_any (l : List Int) (h : Bytes l) (k : Nat) (hk : 8 < k) : ∀ m, ∃ ss, dsizes k l m = some ss := by
  intro m
  induction m with
  | zero => exact ⟨_, rfl⟩
  | succ m ih =>
    obtain ⟨ss, hs⟩ := ih
    rw [dsizes, hs, Option.bind_some, ref14_get _ (midD_bytes h _ _) k hk, Option.bind_some]
    exact ⟨_, rfl⟩
theorem dsizes_twos (k : Nat) (hk : 8 < k) (P ss R : List Int) (hP : P.length = 13) (hm : ∀ x ∈ ss, 0 ≤ x ∧ x ≤ 4096) : ∀ m, m ≤ ss.length → dsizes k (P ++ (twos ss ++ R)) m = some (ss.take m) := by
  intro m
  induction m with
  | zero => exact fun _ => by rw [dsizes, List.take_zero]
  | succ m ih =>
    intro hm'
    have hi := ih (by omega)
    have hml : m < ss.length := by omega
    obtain ⟨m0, m1⟩ := hm ss[m] (List.getElem_mem hml)
    have es : ss = ss.take m ++ (ss[m] :: ss.drop (m + 1)) := by rw [← List.drop_eq_getElem_cons hml, List.take_append_drop]
    have et : twos ss = twos (ss.take m) ++ (putL ss[m] 2 ++ twos (ss.drop (m + 1))) := by
      conv => lhs; rw [es]
      rw [twos_append]; rfl
    have em : midD (P ++ (twos ss ++ R)) (13 + 2 * m) (13 + 2 * m + 2) = putL ss[m] 2 := by
      have := midD_app (P ++ twos (ss.take m)) (putL ss[m] 2) (twos (ss.drop (m + 1)) ++ R) (13 + 2 * m) (13 + 2 * m + 2) (by rw [List.length_append, twos_length, List.length_take]; omega) (by rw [List.length_append, twos_length, List.length_take, putL_length]; omega)
      rw [et]
      simp only [List.append_assoc] at this ⊢
      exact this
    have p2 : (256 : Int) ^ 2 = 65536 := by decide
    rw [dsizes, hi, Option.bind_some, em, ref14_get _ (putL_bytes _ _) k hk, Option.bind_some, getN_putL _ 2 (by omega), p2, w64 (by omega) (by omega), show ss[m] % 65536 = ss[m] by omega, List.take_succ_eq_append_getElem hml]
theorem ref02_right (l : List Int) (h : Bytes l) (hl : l.length < 100000) (k : Nat) (hk : 10 * l.length + 9 < k) : scullerref02_Right.f k l = crc_Right.f k l := by
  have hw : wrap64 ((l.length : Int) - 4) = (l.length : Int) - 4 := w64 (by omega) (by omega)
  unfold scullerref02_Right.f crc_Right.f
  rw [hw]
  by_cases h4 : (l.length : Int) - 4 ≥ 0
  · rw [if_pos h4, if_pos h4, if_pos h4, if_pos h4, if_pos (by omega), if_pos (by omega)]
    have ht := h.take ((l.length : Int) - 4).toNat
    have htl : (l.take ((l.length : Int) - 4).toNat).length ≤ l.length := by rw [List.length_take]; omega
    generalize l.take ((l.length : Int) - 4).toNat = t at ht htl
    have es : scullerref02_Seal.f k t = some (sealed t) := refseal_eq t ht (by omega) k (by omega)
    rw [es, seal_sealed k (by omega) t ht (by omega), Option.bind_some, Option.bind_some, equal_eq (sealed_bytes ht) h, Option.bind_some, str_eq (sealed_bytes ht) h]
  · rw [if_neg h4, if_neg h4]
/-- The two Decodes are one. -/
theorem ref14_dec {b : List Int} (hb : Bytes b) (hl : b.length ≤ 1000) (k : Nat) (hk : 12000 < k) : scullerref14_Decode.f k b = token_Decode.f k b := by
  have hr := ref02_right b hb (by omega) k (by omega)
  obtain ⟨x, ss, y, kn, e, hd, hkb, hz, hc⟩ := dec_any hb (by omega) k (by omega)
  rw [hd]
  unfold scullerref14_Decode.f
  rw [if_neg (by omega), hr]
  rcases hc with ⟨h1, rfl⟩ | ⟨h1, h2, rfl⟩ | ⟨h1, h2, rfl, hno⟩ | ⟨h1, h2, rfl, hok, he, hx, hy⟩
  · obtain ⟨rfl, rfl, rfl, rfl⟩ := hz (by decide)
    rw [if_pos (by omega)]
  · obtain ⟨rfl, rfl, rfl, rfl⟩ := hz (by decide)
    rw [if_neg (by omega), h2, Option.bind_some, if_neg (by simp)]
  · obtain ⟨rfl, rfl, rfl, rfl⟩ := hz (by decide)
    rw [if_neg (by omega), h2, Option.bind_some, if_pos rfl, ref14_get _ (hb.take 8) k (by omega), Option.bind_some, ref14_get _ (midD_bytes hb 8 12) k (by omega), Option.bind_some]
    have x1 := getN_bd hb 8 (by omega)
    have p8 : (256 : Int) ^ 8 = 18446744073709551616 := by decide
    have hw : ∀ q, 0 ≤ IntKind.u32.wrap q ∧ IntKind.u32.wrap q ≤ 4294967295 := fun q => by simp [IntKind.wrap, IntKind.bits, IntKind.signed]; omega
    have y1 := hw (getN (midD b 8 12))
    generalize getN (b.take 8) = x at x1 ⊢
    generalize IntKind.u32.wrap (getN (midD b 8 12)) = y at y1 ⊢
    obtain ⟨ss, hss⟩ := dsizes_any b hb k (by omega) (dcount b)
    rw [hss, Option.bind_some]
    have hkb := midD_bytes hb (13 + 2 * dcount b) (b.length - 4)
    have hkl : (midD b (13 + 2 * dcount b) (b.length - 4)).length ≤ 1000 := by unfold midD; rw [List.length_drop, List.length_take]; omega
    generalize midD b (13 + 2 * dcount b) (b.length - 4) = kn at hkb hkl ⊢
    by_cases h : TokOK ss kn
    · rw [ref14_enc_ok h hkb (by omega) y1 k (by omega), Option.bind_some]
      dsimp only
      rw [if_pos rfl, str_eq (sealed_bytes (encL_bytes _ _ _ hkb)) hb, if_neg]
      rw [decide_eq_true_iff]
      exact fun e => hno x ss y kn (by omega) y1 hkb h e.symm
    · rw [ref14_enc_no h hkb (by omega) k (by omega), Option.bind_some]
      dsimp only
      rw [if_neg (by omega)]
  · have h16 := hok.ss
    have hkn := hok.kn
    have hEl : (sealed (encL x ss y kn)).length = 17 + 2 * ss.length + kn.length := by rw [sealed_length, encL_length]; omega
    have e0 : sealed (encL x ss y kn) = ((putL x 8 ++ putL y 4) ++ putL (ss.length : Int) 1) ++ (twos ss ++ (kn ++ ints (four (sumN (nats (encL x ss y kn)))))) := by
      unfold sealed encL; simp only [List.append_assoc]
    have hP : ((putL x 8 ++ putL y 4) ++ putL (ss.length : Int) 1).length = 13 := by simp only [List.length_append, putL_length]
    have g1 : (sealed (encL x ss y kn)).take 8 = putL x 8 := by
      rw [e0]; simp only [List.append_assoc]; exact List.take_left' (putL_length _ _)
    have g2 : midD (sealed (encL x ss y kn)) 8 12 = putL y 4 := by
      rw [e0]; simp only [List.append_assoc]
      exact midD_app (putL x 8) (putL y 4) _ 8 12 (putL_length _ _) (by simp only [putL_length])
    have g3 : rd (sealed (encL x ss y kn)) 12 = (ss.length : Int) := by
      have e1 : putL (ss.length : Int) 1 = [(ss.length : Int)] := by
        show [(ss.length : Int) / 256 ^ 0 % 256] = _
        rw [Int.pow_zero, Int.ediv_one, show (ss.length : Int) % 256 = (ss.length : Int) by omega]
      unfold rd
      rw [e0, e1, List.getD_eq_getElem?_getD, show (12 : Int).toNat = 12 from rfl, List.append_assoc, List.getElem?_append_right (by simp only [List.length_append, putL_length]; omega)]
      simp only [List.length_append, putL_length]
      rfl
    have hdc : dcount (sealed (encL x ss y kn)) = ss.length := by
      unfold dcount
      rw [g3, w64 (by omega) (by omega), hEl]
      omega
    have g4 := dsizes_twos k (by omega) ((putL x 8 ++ putL y 4) ++ putL (ss.length : Int) 1) ss (kn ++ ints (four (sumN (nats (encL x ss y kn))))) hP (fits_mem hok.1) ss.length (by omega)
    rw [List.take_length, ← e0] at g4
    have g5 : midD (sealed (encL x ss y kn)) (13 + 2 * ss.length) ((sealed (encL x ss y kn)).length - 4) = kn := by
      have := midD_app (((putL x 8 ++ putL y 4) ++ putL (ss.length : Int) 1) ++ twos ss) kn (ints (four (sumN (nats (encL x ss y kn))))) (13 + 2 * ss.length) (13 + 2 * ss.length + kn.length) (by rw [List.length_append, hP, twos_length]) (by rw [List.length_append, hP, twos_length])
      rw [hEl, show 17 + 2 * ss.length + kn.length - 4 = 13 + 2 * ss.length + kn.length by omega, e0]
      simp only [List.append_assoc] at this ⊢
      exact this
    have p8 : (256 : Int) ^ 8 = 18446744073709551616 := by decide
    have p4 : (256 : Int) ^ 4 = 4294967296 := by decide
    have hw : IntKind.u32.wrap (y % 4294967296) = y := by simp [IntKind.wrap, IntKind.bits, IntKind.signed]; omega
    subst he
    rw [if_neg (by omega), h2, Option.bind_some, if_pos rfl, g1, g2, hdc, ref14_get _ (putL_bytes _ _) k (by omega), Option.bind_some, ref14_get _ (putL_bytes _ _) k (by omega), Option.bind_some, g4, Option.bind_some, g5, getN_putL _ 8 (by omega), getN_putL _ 4 (by omega), p8, p4, hw, show x % 18446744073709551616 = x by omega, ref14_enc_ok hok hkb hx hy k (by omega), Option.bind_some]
    dsimp only
    rw [if_pos rfl, str_eq (sealed_bytes (encL_bytes _ _ _ hkb)) (sealed_bytes (encL_bytes _ _ _ hkb)), if_pos (by simp)]
theorem sameInts_l0 (a b : List Int) (hab : a.length = b.length) (hl : a.length < 9223372036854775807) : ∀ (d k i : Nat), i + d = a.length → d < k → scullerref07_SameInts.l0 k a b (i : Int) = some (decide (a.drop i = b.drop i)) := by
  intro d
  induction d with
  | zero =>
    intro k i hi hk
    obtain ⟨k, rfl⟩ : ∃ j, k = j + 1 := ⟨k - 1, by omega⟩
    rw [scullerref07_SameInts.l0, if_neg (by omega), List.drop_of_length_le (by omega), List.drop_of_length_le (by omega)]; simp
  | succ d ih =>
    intro k i hi hk
    obtain ⟨k, rfl⟩ : ∃ j, k = j + 1 := ⟨k - 1, by omega⟩
    have := ih k (i + 1) (by omega) (by omega)
    rw [show ((i + 1 : Nat) : Int) = (i : Int) + 1 by omega] at this
    rw [scullerref07_SameInts.l0, if_pos (by omega), drop_rd' (s := a) (by omega), drop_rd' (s := b) (by omega)]
    (repeat rw [if_pos (by omega)])
    by_cases he : rd a (i : Int) = rd b (i : Int)
    · simp only [he, if_true]
      rw [w64 (x := (i : Int) + 1) (by omega) (by omega), this]
      simp
    · simp only [he, if_false]
      simp [he]
theorem sameInts_eq (a b : List Int) (hl : a.length < 9223372036854775807) (k : Nat) (hk : a.length < k) : scullerref07_SameInts.f k a b = some (decide (a = b)) := by
  unfold scullerref07_SameInts.f
  by_cases h : (a.length : Int) = (b.length : Int)
  · rw [if_pos h]
    have := sameInts_l0 a b (by omega) hl a.length k 0 (by omega) (by omega)
    simpa using this
  · rw [if_neg h, decide_eq_false]
    rintro rfl; exact h rfl
theorem rtokSame_eq {x : Int} {ss : List Int} {y : Int} {kn : List Int} {x' : Int} {ss' : List Int} {y' : Int} {kn' : List Int} (hb : Bytes kn) (hb' : Bytes kn') (hl : ss.length < 9223372036854775807) (k : Nat) (hk : ss.length < k) :
    scullerref14_Same.f k x ss y kn x' ss' y' kn' = some (decide (x = x' ∧ y = y' ∧ ss = ss' ∧ kn = kn')) := by
  unfold scullerref14_Same.f scullerref12_Same.f
  rw [sameInts_eq ss ss' hl k hk, str_eq hb hb']
  by_cases h1 : x = x'
  · by_cases h2 : y = y'
    · by_cases h3 : ss = ss'
      · simp [h1, h2, h3]
      · simp [h1, h2, h3]
    · simp [h1, h2]
  · simp [h1]
theorem tok_decodes {b : List Int} (hb : Bytes b) (hl : b.length ≤ 1000) (k : Nat) (hk : 12000 < k) : scullerlaw14_decodes.f k b = some true := by
  unfold scullerlaw14_decodes.f
  rw [ref14_dec hb hl k hk]
  obtain ⟨x, ss, y, kn, e, hd, hkb, hz, hc⟩ := dec_any hb (by omega) k (by omega)
  have hse : ss.length ≤ 16 ∧ (e = 0 ∨ e = 10 ∨ e = 11 ∨ e = 12) := by
    rcases hc with ⟨h1, rfl⟩ | ⟨h1, h2, rfl⟩ | ⟨h1, h2, rfl, hno⟩ | ⟨h1, h2, rfl, hok, he, hx, hy⟩
    · obtain ⟨rfl, rfl, rfl, rfl⟩ := hz (by decide)
      simp
    · obtain ⟨rfl, rfl, rfl, rfl⟩ := hz (by decide)
      simp
    · obtain ⟨rfl, rfl, rfl, rfl⟩ := hz (by decide)
      simp
    · exact ⟨hok.ss, .inl rfl⟩
  obtain ⟨hs4, he⟩ := hse
  rw [hd, Option.bind_some]
  dsimp only
  rw [Option.bind_some]
  dsimp only
  rw [rtokSame_eq hkb hkb (by omega) k (by omega), Option.bind_some, if_pos (by simp), w64 (x := e) (by omega) (by omega)]
  simp
end Go.Proofs.Ytliohoalackhiaa.J
