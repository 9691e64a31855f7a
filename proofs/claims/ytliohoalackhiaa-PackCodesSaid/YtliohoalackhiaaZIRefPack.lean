/- What the document's Right, Encode, Parse and Same of a datagram compute, in plain lists of bytes: just what the program's do. Conditions: those in each theorem. -/
import Derived.Test.YtliohoalackhiaaZIPackAll
import Derived.Test.YtliohoalackhiaaZIIBase
import Derived.Test.YtliohoalackhiaaZIx11
import Derived.Test.YtliohoalackhiaaZIgParses
import Derived.Test.YtliohoalackhiaaZIx12
import Derived.Test.YtliohoalackhiaaZIx16
namespace Go.Proofs.Ytliohoalackhiaa.I
set_option linter.unusedVariables false
open Go.RowKit Go.Proofs.YtliohoalackhiaaW.PrintWords Go.Proofs.YtliohoalackhiaaW.PrintLast Go.Proofs.YtliohoalackhiaaW.PrintMore Go.Proofs.Ytliohoalackhiaa.Num Go.Proofs.Ytliohoalackhiaa.CrcN
/-- no size that may not be -/
def fitsS (ss : List Int) : Bool := ss.all fun x => decide (0 ≤ x ∧ x ≤ 4096)
theorem fitsS_iff (ss : List Int) : fitsS ss = true ↔ ∀ x ∈ ss, 0 ≤ x ∧ x ≤ 4096 := by
  unfold fitsS; simp
theorem ref13_l0 (kd x i o y : Int) (ss bd : List Int) (hl : ss.length < 1000) : ∀ (d k j : Nat), j + d = ss.length → d < k → scullerref13_Right.l0 k (j : Int) kd x i o y ss bd = some (fitsS (ss.drop j)) := by
  intro d
  induction d with
  | zero =>
    intro k j hj hk
    obtain ⟨k, rfl⟩ : ∃ q, k = q + 1 := ⟨k - 1, by omega⟩
    rw [scullerref13_Right.l0, if_neg (by omega), List.drop_of_length_le (by omega)]; rfl
  | succ d ih =>
    intro k j hj hk
    obtain ⟨k, rfl⟩ : ∃ q, k = q + 1 := ⟨k - 1, by omega⟩
    have h := ih k (j + 1) (by omega) (by omega)
    rw [show ((j + 1 : Nat) : Int) = (j : Int) + 1 by omega] at h
    rw [scullerref13_Right.l0, if_pos (by omega), if_pos (by omega), drop_rd' (s := ss) (i := j) (by omega), w64 (x := (j : Int) + 1) (by omega) (by omega), h]
    show _ = some (decide (0 ≤ rd ss (j : Int) ∧ rd ss (j : Int) ≤ 4096) && fitsS (ss.drop (j + 1)))
    by_cases h1 : rd ss (j : Int) < 0
    · rw [if_pos h1, decide_eq_false (by omega)]; rfl
    · rw [if_neg h1]
      by_cases h2 : rd ss (j : Int) > 4096
      · rw [if_pos h2, decide_eq_false (by omega)]; rfl
      · rw [if_neg h2, decide_eq_true (by omega)]; rfl
theorem ref13_j1t (k : Nat) (kd x i o y : Int) (ss bd : List Int) : scullerref13_Right.j1 (k + 1) true kd x i o y ss bd = some false := by
  rw [scullerref13_Right.j1, if_pos rfl]
theorem ref13_j0t (k : Nat) (kd x i o y : Int) (ss bd : List Int) : scullerref13_Right.j0 (k + 1) true kd x i o y ss bd = some false := by
  rw [scullerref13_Right.j0, if_pos rfl]
theorem packB_no {kd i o : Int} {ss bd : List Int} (h : ¬ PackOK kd i o ss bd) : packB kd i o ss bd = false := Bool.eq_false_iff.mpr fun e => h ((packB_iff _ _ _ _ _).1 e)
theorem ref13_right (kd x i o y : Int) (ss bd : List Int) (k : Nat) (hk : 20 < k) : scullerref13_Right.f k kd x i o y ss bd = some (packB kd i o ss bd) := by
  obtain ⟨k, rfl⟩ : ∃ q, k = q + 2 := ⟨k - 2, by omega⟩
  unfold scullerref13_Right.f
  rw [ref13_j0t]
  by_cases h1 : kd < 1
  · rw [if_pos h1, packB_no (fun h => by have := h.k; omega)]
  rw [if_neg h1]
  by_cases h2 : kd > 8
  · rw [if_pos h2, packB_no (fun h => by have := h.k; omega)]
  rw [if_neg h2]
  by_cases h3 : i < 0
  · rw [if_pos h3, packB_no (fun h => by have := h.i; omega)]
  rw [if_neg h3]
  by_cases h4 : i > 65535
  · rw [if_pos h4, packB_no (fun h => by have := h.i; omega)]
  rw [if_neg h4]
  by_cases h5 : o < 0
  · rw [if_pos h5, packB_no (fun h => by have := h.o; omega)]
  rw [if_neg h5]
  by_cases h6 : o > 65535
  · rw [decide_eq_true h6, ref13_j0t, packB_no (fun h => by have := h.o; omega)]
  rw [decide_eq_false h6, scullerref13_Right.j0, if_neg (by simp)]
  have hfin : ss.length ≤ 4 → (kd = 1 ∨ ss.length = 0) → bd.length ≤ 64 → (bd.length = 0 ∨ (2 ≤ kd ∧ kd ≤ 4)) → scullerref13_Right.j1 (k + 1) false kd x i o y ss bd = some (packB kd i o ss bd) := by
    intro a1 a2 a3 a4
    rw [scullerref13_Right.j1, if_neg (by simp)]
    have := ref13_l0 kd x i o y ss bd (by omega) ss.length k 0 (by omega) (by omega)
    rw [show ((0 : Nat) : Int) = 0 from rfl, List.drop_zero] at this
    rw [this]
    cases hf : fitsS ss with
    | true =>
      rw [(packB_iff _ _ _ _ _).2 ⟨by omega, by omega, by omega, by split <;> omega, by split <;> omega, (fitsS_iff ss).1 hf⟩]
    | false =>
      rw [packB_no (fun h => by rw [(fitsS_iff ss).2 h.m] at hf; cases hf)]
  have hb : (ss.length ≤ 4 → (kd = 1 ∨ ss.length = 0) → (if (bd.length : Int) > 0 then (if kd < 2 then scullerref13_Right.j1 (k + 1) true kd x i o y ss bd else (if kd > 4 then scullerref13_Right.j1 (k + 1) true kd x i o y ss bd else scullerref13_Right.j1 (k + 1) (decide ((bd.length : Int) > 64)) kd x i o y ss bd)) else scullerref13_Right.j1 (k + 1) (decide ((bd.length : Int) > 64)) kd x i o y ss bd) = some (packB kd i o ss bd)) := by
    intro a1 a2
    rw [ref13_j1t]
    by_cases b0 : (bd.length : Int) > 0
    · rw [if_pos b0]
      by_cases b1 : kd < 2
      · rw [if_pos b1, packB_no (fun h => by have := h.b; rw [if_neg (by omega)] at this; omega)]
      rw [if_neg b1]
      by_cases b2 : kd > 4
      · rw [if_pos b2, packB_no (fun h => by have := h.b; rw [if_neg (by omega)] at this; omega)]
      rw [if_neg b2]
      by_cases b3 : (bd.length : Int) > 64
      · rw [decide_eq_true b3, ref13_j1t, packB_no (fun h => by have := h.b; split at this <;> omega)]
      rw [decide_eq_false b3, hfin a1 a2 (by omega) (by omega)]
    · rw [if_neg b0, decide_eq_false (by omega), hfin a1 a2 (by omega) (by omega)]
  by_cases s0 : (ss.length : Int) > 0
  · rw [if_pos s0]
    by_cases s1 : kd = 1
    · rw [if_pos s1]
      by_cases s2 : (ss.length : Int) > 4
      · rw [if_pos s2, ref13_j1t, packB_no (fun h => by have := h.s; split at this <;> omega)]
      · rw [if_neg s2, hb (by omega) (.inl s1)]
    · rw [if_neg s1, ref13_j1t, packB_no (fun h => by have := h.s; rw [if_neg s1] at this; omega)]
  · rw [if_neg s0]
    by_cases s2 : (ss.length : Int) > 4
    · omega
    · rw [if_neg s2, hb (by omega) (.inr (by omega))]
theorem ref13_put (l : List Int) (hl : l.length < 1000) (n : Int) (h0 : 0 ≤ n) (h1 : n ≤ 18446744073709551615) (m : Nat) (hm : m ≤ 8) (k : Nat) (hk : 8 < k) : scullerref13_put.f k l n (m : Int) = some (l ++ putL n m) := by
  unfold scullerref13_put.f
  rw [if_pos (by simp; omega), Option.bind_some, ref_put_eq k hk n _ h0 h1, Option.bind_some, asked_nat hm, List.nil_append, if_pos (by rw [putL_length]; omega)]
theorem ref13_enc_l0 (kd x i o y : Int) (ss bd : List Int) (hm : ∀ x ∈ ss, 0 ≤ x ∧ x ≤ 4096) (hl : ss.length ≤ 4) (hbl : bd.length ≤ 64) : ∀ (d k j : Nat) (z : List Int), j + d = ss.length → d + 1200 < k → z.length ≤ 17 + 2 * j → Bytes z → Bytes bd →
    scullerref13_Encode.l0 k z (j : Int) kd x i o y ss bd = some (sealed (z ++ (twos (ss.drop j) ++ bd)), 0) := by
  intro d
  induction d with
  | zero =>
    intro k j z hj hk hz hzb hb
    obtain ⟨k, rfl⟩ : ∃ q, k = q + 1 := ⟨k - 1, by omega⟩
    rw [scullerref13_Encode.l0, if_neg (by omega), if_pos (by omega), List.drop_of_length_le (by omega)]
    rw [refseal_eq _ (hzb.append hb) (by rw [List.length_append]; omega) k (by rw [List.length_append]; omega), Option.bind_some]; rfl
  | succ d ih =>
    intro k j z hj hk hz hzb hb
    obtain ⟨k, rfl⟩ : ∃ q, k = q + 1 := ⟨k - 1, by omega⟩
    obtain ⟨m0, m1⟩ := hm (rd ss (j : Int)) (by
      unfold rd
      rw [Int.toNat_natCast, List.getD_eq_getElem?_getD, List.getElem?_eq_getElem (show j < ss.length by omega)]
      exact List.getElem_mem _)
    have hd := drop_rd' (s := ss) (i := j) (by omega)
    generalize rd ss (j : Int) = v at m0 m1 hd
    have h := ih k (j + 1) (z ++ putL v 2) (by omega) (by omega) (by rw [List.length_append, putL_length]; omega) (hzb.append (putL_bytes _ _)) hb
    rw [show ((j + 1 : Nat) : Int) = (j : Int) + 1 by omega] at h
    have hv : rd ss (j : Int) = v := by
      have := drop_rd' (s := ss) (i := j) (by omega)
      rw [hd] at this
      exact (List.cons.inj this).1.symm
    have hp : scullerref13_put.f k z v 2 = some (z ++ putL v 2) := ref13_put z (by omega) v m0 (by omega) 2 (by omega) k (by omega)
    rw [scullerref13_Encode.l0, if_pos (by omega), if_pos (by omega), hv, u64id m0 (by omega), hp, Option.bind_some, w64 (x := (j : Int) + 1) (by omega) (by omega), h, hd]
    simp only [twos, List.append_assoc]
theorem ref13_enc_ok {kd x i o y : Int} {ss bd : List Int} (h : PackOK kd i o ss bd) (hb : Bytes bd) (hx : 0 ≤ x ∧ x ≤ 18446744073709551615) (hy : 0 ≤ y ∧ y ≤ 4294967295) (k : Nat) (hk : 1300 < k) : scullerref13_Encode.f k kd x i o y ss bd = some (sealed (packL kd x i o y ss bd), 0) := by
  have hk0 := h.k
  have hi := h.i
  have ho := h.o
  obtain ⟨h4, h64, _, _⟩ := h.ss4
  have e1 : scullerref13_put.f k [] kd 1 = some ([] ++ putL kd 1) := ref13_put [] (by simp) kd (by omega) (by omega) 1 (by omega) k (by omega)
  have e2 : scullerref13_put.f k ([] ++ putL kd 1) x 8 = some (([] ++ putL kd 1) ++ putL x 8) := ref13_put _ (by simp only [List.length_append, putL_length, List.length_nil]; omega) x (by omega) (by omega) 8 (by omega) k (by omega)
  have e3 : scullerref13_put.f k (([] ++ putL kd 1) ++ putL x 8) i 2 = some ((([] ++ putL kd 1) ++ putL x 8) ++ putL i 2) := ref13_put _ (by simp only [List.length_append, putL_length, List.length_nil]; omega) i (by omega) (by omega) 2 (by omega) k (by omega)
  have e4 : scullerref13_put.f k ((([] ++ putL kd 1) ++ putL x 8) ++ putL i 2) o 2 = some (((([] ++ putL kd 1) ++ putL x 8) ++ putL i 2) ++ putL o 2) := ref13_put _ (by simp only [List.length_append, putL_length, List.length_nil]; omega) o (by omega) (by omega) 2 (by omega) k (by omega)
  have e5 : scullerref13_put.f k (((([] ++ putL kd 1) ++ putL x 8) ++ putL i 2) ++ putL o 2) y 4 = some ((((([] ++ putL kd 1) ++ putL x 8) ++ putL i 2) ++ putL o 2) ++ putL y 4) := ref13_put _ (by simp only [List.length_append, putL_length, List.length_nil]; omega) y (by omega) (by omega) 4 (by omega) k (by omega)
  have hl0 := ref13_enc_l0 kd x i o y ss bd h.m h4 h64 ss.length k 0 ((((([] ++ putL kd 1) ++ putL x 8) ++ putL i 2) ++ putL o 2) ++ putL y 4) (by omega) (by omega) (by simp only [List.length_append, putL_length, List.length_nil]; omega)
    (((((Bytes.append (fun x hx => by cases hx) (putL_bytes _ _)).append (putL_bytes _ _)).append (putL_bytes _ _)).append (putL_bytes _ _)).append (putL_bytes _ _)) hb
  rw [show ((0 : Nat) : Int) = 0 from rfl, List.drop_zero] at hl0
  unfold scullerref13_Encode.f
  rw [ref13_right kd x i o y ss bd k (by omega), Option.bind_some, (packB_iff _ _ _ _ _).2 h, if_pos rfl, u64id (x := kd) (by omega) (by omega), u64id (x := i) (by omega) (by omega), u64id (x := o) (by omega) (by omega), u64id (x := y) (by omega) (by omega)]
  rw [e1, Option.bind_some, e2, Option.bind_some, e3, Option.bind_some, e4, Option.bind_some, e5, Option.bind_some, hl0]
  unfold packL
  simp only [List.nil_append, List.append_assoc]
theorem ref13_enc_no {kd x i o y : Int} {ss bd : List Int} (h : ¬ PackOK kd i o ss bd) (k : Nat) (hk : 20 < k) : scullerref13_Encode.f k kd x i o y ss bd = some ([], 1) := by
  unfold scullerref13_Encode.f
  rw [ref13_right kd x i o y ss bd k hk, Option.bind_some, packB_no h, if_neg (by simp)]
/-- The two Encodes are one. -/
theorem encodes_true {kd x i o y : Int} {ss bd : List Int} (hb : Bytes bd) (hx : 0 ≤ x ∧ x ≤ 18446744073709551615) (hy : 0 ≤ y ∧ y ≤ 4294967295) (hi : isInt kd) (k : Nat) (hk : 1300 < k) : scullerlaw13_encodes.f k kd x i o y ss bd = some true := by
  unfold scullerlaw13_encodes.f
  by_cases h : PackOK kd i o ss bd
  · rw [pack_enc_ok h hb hy k (by omega), Option.bind_some, ref13_enc_ok h hb hx hy k hk, Option.bind_some, if_pos rfl]; simp [wrap64]
  · rw [pack_enc_no h hi k, Option.bind_some, ref13_enc_no h k (by omega), Option.bind_some, if_pos rfl]; simp [wrap64]
theorem ref13_getN (l : List Int) (h : Bytes l) (k : Nat) (hk : 8 < k) : scullerref01_Get.f k l = some (getN l) := by
  rw [ref_get_eq k hk l h, getN_eq' h]
theorem ref13_get (l : List Int) (h : Bytes l) (at_ w : Nat) (hw : at_ + w ≤ l.length) (hl : l.length < 1000000000) (k : Nat) (hk : 8 < k) : scullerref13_get.f k l (at_ : Int) (w : Int) = some (wrap64 (getN (mid l at_ (at_ + w)))) := by
  unfold scullerref13_get.f
  rw [w64 (x := (at_ : Int) + (w : Int)) (by omega) (by omega), if_pos (by omega), if_pos (by omega), if_pos (by omega)]
  have e : ((at_ : Int) + (w : Int)).toNat = at_ + w := by omega
  have hm : Bytes (mid l at_ (at_ + w)) := mid_bytes h _ _
  rw [e, Int.toNat_natCast]
  show (scullerref01_Get.f k (mid l at_ (at_ + w))).bind _ = _
  rw [ref13_getN _ hm k hk, Option.bind_some]
theorem rsizes_any (rest : List Int) (h : Bytes rest) (hl : rest.length < 1000000000) (k : Nat) (hk : 8 < k) : ∀ m, 2 * m ≤ rest.length → ∃ ss, rsizes k rest m = some ss := by
  intro m
  induction m with
  | zero => exact fun _ => ⟨_, rfl⟩
  | succ m ih =>
    intro hm
    obtain ⟨ss, hs⟩ := ih (by omega)
    have hg := ref13_get rest h (2 * m) 2 (by omega) hl k hk
    rw [rsizes, hs, Option.bind_some, show (2 : Int) = ((2 : Nat) : Int) from rfl, hg, Option.bind_some]
    exact ⟨_, rfl⟩
theorem rsizes_twos (k : Nat) (hk : 8 < k) (ss : List Int) (hm : ∀ x ∈ ss, 0 ≤ x ∧ x ≤ 4096) (hl : ss.length < 1000) : ∀ m, m ≤ ss.length → rsizes k (twos ss) m = some (ss.take m) := by
  intro m
  induction m with
  | zero => exact fun _ => by rw [rsizes, List.take_zero]
  | succ m ih =>
    intro hm'
    have hi := ih (by omega)
    have hg := ref13_get (twos ss) (twos_bytes ss) (2 * m) 2 (by rw [twos_length]; omega) (by rw [twos_length]; omega) k hk
    have hml : m < ss.length := by omega
    obtain ⟨m0, m1⟩ := hm ss[m] (List.getElem_mem hml)
    have es : ss = ss.take m ++ (ss[m] :: ss.drop (m + 1)) := by rw [← List.drop_eq_getElem_cons hml, List.take_append_drop]
    have et : twos ss = twos (ss.take m) ++ (putL ss[m] 2 ++ twos (ss.drop (m + 1))) := by
      conv => lhs; rw [es]
      rw [twos_append]; rfl
    have em : mid (twos ss) (2 * m) (2 * m + 2) = putL ss[m] 2 := by
      rw [et]
      exact mid_app _ _ _ _ _ (by rw [twos_length, List.length_take]; omega) (by rw [twos_length, List.length_take, putL_length]; omega)
    have p2 : (256 : Int) ^ 2 = 65536 := by decide
    rw [rsizes, hi, Option.bind_some, show (2 : Int) = ((2 : Nat) : Int) from rfl, hg, Option.bind_some, em, getN_put _ 2 (by omega), p2, w64 (by omega) (by omega), show ss[m] % 65536 = ss[m] by omega, List.take_succ_eq_append_getElem hml]
/-- The two Rights of a sum are one. -/
theorem ref02_right (l : List Int) (h : Bytes l) (hl : l.length < 100000) (k : Nat) (hk : 10 * l.length + 9 < k) : scullerref02_Right.f k l = crc_Right.f k l := by
  have hw : wrap64 ((l.length : Int) - 4) = (l.length : Int) - 4 := w64 (by omega) (by omega)
  unfold scullerref02_Right.f crc_Right.f
  rw [hw]
  by_cases h4 : (l.length : Int) - 4 ≥ 0
  · rw [if_pos h4, if_pos h4, if_pos h4, if_pos h4, if_pos (by omega), if_pos (by omega)]
    have ht := h.take ((l.length : Int) - 4).toNat
    have htl : (l.take ((l.length : Int) - 4).toNat).length ≤ l.length := by rw [List.length_take]; omega
    generalize l.take ((l.length : Int) - 4).toNat = t at ht htl
    have es : scullerref02_Seal.f k t = some (sealed t) := refseal_eq t ht (by omega) k (by omega)
    rw [es, seal_sealed k (by omega) t ht (by omega), Option.bind_some, Option.bind_some, equal_eq (sealed_bytes ht) h, Option.bind_some, str_eq (sealed_bytes ht) h]
  · rw [if_neg h4, if_neg h4]
/-- The two Parses are one. -/
theorem ref13_parse {b : List Int} (hb : Bytes b) (hl : b.length ≤ 1000) (k : Nat) (hk : 12000 < k) : scullerref13_Parse.f k b = pack_Parse.f k b := by
  have hr := ref02_right b hb (by omega) k (by omega)
  unfold scullerref13_Parse.f
  obtain ⟨kd, x, i, o, y, ss, bd, e, hd, hbd, hz, hc⟩ := pack_any hb (by omega) k (by omega)
  rw [hd]
  unfold refParse
  rw [if_neg (by omega), hr]
  rcases hc with ⟨h1, rfl⟩ | ⟨h1, h2, rfl⟩ | ⟨h1, h2, rfl, hno⟩ | ⟨h1, h2, rfl, hok, he, hx, hy⟩
  · obtain ⟨rfl, rfl, rfl, rfl, rfl, rfl, rfl⟩ := hz (by decide)
    rw [if_pos (by omega)]
  · obtain ⟨rfl, rfl, rfl, rfl, rfl, rfl, rfl⟩ := hz (by decide)
    rw [if_neg (by omega), h2, Option.bind_some, if_neg (by simp)]
  · obtain ⟨rfl, rfl, rfl, rfl, rfl, rfl, rfl⟩ := hz (by decide)
    have g1 := ref13_getN (mid b 1 9) (mid_bytes hb _ _) k (by omega)
    have g2 : scullerref13_get.f k b 9 2 = _ := ref13_get b hb 9 2 (by omega) (by omega) k (by omega)
    have g3 : scullerref13_get.f k b 11 2 = _ := ref13_get b hb 11 2 (by omega) (by omega) k (by omega)
    have g4 : scullerref13_get.f k b 13 4 = _ := ref13_get b hb 13 4 (by omega) (by omega) k (by omega)
    rw [if_neg (by omega), h2, Option.bind_some, if_pos rfl, g1, Option.bind_some, g2, Option.bind_some, g3, Option.bind_some, g4, Option.bind_some]
    have x1 := getN_bd' (mid_bytes hb 1 9) 8 (by rw [mid_length _ _ _ (by omega)]; omega) (by omega)
    have p8 : (256 : Int) ^ 8 = 18446744073709551616 := by decide
    have hw : ∀ q, 0 ≤ IntKind.u32.wrap q ∧ IntKind.u32.wrap q ≤ 4294967295 := fun q => by simp [IntKind.wrap, IntKind.bits, IntKind.signed]; omega
    have y1 := hw (wrap64 (getN (mid b 13 (13 + 4))))
    generalize getN (mid b 1 9) = x at x1 ⊢
    generalize IntKind.u32.wrap (wrap64 (getN (mid b 13 (13 + 4)))) = y at y1 ⊢
    generalize wrap64 (getN (mid b 9 (9 + 2))) = i
    generalize wrap64 (getN (mid b 11 (11 + 2))) = o
    generalize wrap64 (rd b 0) = kd
    have hrb := mid_bytes hb 17 (b.length - 4)
    have hrl : (mid b 17 (b.length - 4)).length < 1000000000 := by rw [mid_length _ _ _ (by omega)]; omega
    generalize mid b 17 (b.length - 4) = rest at hrb hrl ⊢
    obtain ⟨ss, hss⟩ : ∃ ss, (if kd = 1 then rsizes k rest (rest.length / 2) else some []) = some ss := by
      split
      · exact rsizes_any rest hrb hrl k (by omega) _ (by omega)
      · exact ⟨_, rfl⟩
    have hbd : Bytes (if kd = 1 then [] else rest) := by split; exact (fun x hx => by cases hx); assumption
    rw [hss, Option.bind_some]
    generalize (if kd = 1 then [] else rest) = bd at hbd ⊢
    by_cases h : PackOK kd i o ss bd
    · rw [ref13_enc_ok h hbd (by omega) y1 k (by omega), Option.bind_some]
      dsimp only
      rw [if_pos rfl, str_eq (sealed_bytes (packL_bytes _ _ _ _ _ _ hbd)) hb, if_neg]
      rw [decide_eq_true_iff]
      exact fun e => hno kd x i o y ss bd (by omega) y1 hbd h e.symm
    · rw [ref13_enc_no h k (by omega), Option.bind_some]
      dsimp only
      rw [if_neg (by omega)]
  · subst he
    obtain ⟨h4, h64, n1, n2⟩ := hok.ss4
    have hkd := hok.k
    have hL := packL_bytes kd x i o y ss hbd
    have hll := packL_length kd x i o y ss bd
    obtain ⟨m0, m1, m2, m3, m4, m5⟩ := pack_mid kd x i o y ss bd (ints (four (sumN (nats (packL kd x i o y ss bd))))) (four_length _) (by omega) hx hok.i hok.o hy
    have es : packL kd x i o y ss bd ++ ints (four (sumN (nats (packL kd x i o y ss bd)))) = sealed (packL kd x i o y ss bd) := rfl
    rw [es] at m0 m1 m2 m3 m4 m5
    have hk63 : wrap64 kd = kd := w64 (by omega) (by omega)
    have g1 := ref13_getN (mid (sealed (packL kd x i o y ss bd)) 1 9) (mid_bytes hb _ _) k (by omega)
    have g2 : scullerref13_get.f k (sealed (packL kd x i o y ss bd)) 9 2 = some (wrap64 (getN (mid (sealed (packL kd x i o y ss bd)) 9 11))) := ref13_get _ hb 9 2 (by omega) (by omega) k (by omega)
    have g3 : scullerref13_get.f k (sealed (packL kd x i o y ss bd)) 11 2 = some (wrap64 (getN (mid (sealed (packL kd x i o y ss bd)) 11 13))) := ref13_get _ hb 11 2 (by omega) (by omega) k (by omega)
    have g4 : scullerref13_get.f k (sealed (packL kd x i o y ss bd)) 13 4 = some (wrap64 (getN (mid (sealed (packL kd x i o y ss bd)) 13 17))) := ref13_get _ hb 13 4 (by omega) (by omega) k (by omega)
    have b4 := getN_bd' (mid_bytes hb 13 17) 4 (by rw [mid_length _ _ _ (by omega)]; omega) (by omega)
    have p4 : (256 : Int) ^ 4 = 4294967296 := by decide
    rw [w64 (x := getN (mid (sealed (packL kd x i o y ss bd)) 13 17)) (by omega) (by omega)] at g4
    rw [if_neg (by omega), h2, Option.bind_some, if_pos rfl, g1, Option.bind_some, g2, Option.bind_some, g3, Option.bind_some, g4, Option.bind_some, m5, m0, m1, m2, m3, m4, hk63]
    by_cases e : kd = 1
    · have := n1 e
      subst this
      have hs := rsizes_twos k (by omega) ss hok.m (by omega) ss.length (by omega)
      rw [List.take_length] at hs
      rw [if_pos e, if_pos e, List.append_nil, twos_length, show 2 * ss.length / 2 = ss.length by omega, hs, Option.bind_some, ref13_enc_ok hok hbd hx hy k (by omega), Option.bind_some]
      dsimp only
      rw [if_pos rfl, str_eq (sealed_bytes hL) (sealed_bytes hL), if_pos (by simp)]
    · have := n2 e
      subst this
      rw [if_neg e, if_neg e, Option.bind_some]
      simp only [twos, List.nil_append]
      rw [ref13_enc_ok hok hbd hx hy k (by omega), Option.bind_some]
      dsimp only
      rw [if_pos rfl, str_eq (sealed_bytes hL) (sealed_bytes hL), if_pos (by simp)]
theorem parses_true {b : List Int} (hb : Bytes b) (hl : b.length ≤ 1000) (k : Nat) (hk : 12000 < k) : scullerlaw13_parses.f k b = some true := by
  unfold scullerlaw13_parses.f
  rw [ref13_parse hb hl k hk]
  obtain ⟨kd, x, i, o, y, ss, bd, e, hd, hbd, hz, hc⟩ := pack_any hb (by omega) k (by omega)
  have hse : ss.length ≤ 4 ∧ (e = 0 ∨ e = 10 ∨ e = 11 ∨ e = 12) := by
    rcases hc with ⟨h1, rfl⟩ | ⟨h1, h2, rfl⟩ | ⟨h1, h2, rfl, hno⟩ | ⟨h1, h2, rfl, hok, he, hx, hy⟩
    · obtain ⟨rfl, rfl, rfl, rfl, rfl, rfl, rfl⟩ := hz (by decide)
      simp
    · obtain ⟨rfl, rfl, rfl, rfl, rfl, rfl, rfl⟩ := hz (by decide)
      simp
    · obtain ⟨rfl, rfl, rfl, rfl, rfl, rfl, rfl⟩ := hz (by decide)
      simp
    · exact ⟨hok.ss4.1, .inl rfl⟩
  obtain ⟨hs4, he⟩ := hse
  rw [hd, Option.bind_some]
  dsimp only
  rw [Option.bind_some]
  dsimp only
  rw [rpackSame_self (by omega) k (by omega), Option.bind_some, if_pos rfl, w64 (x := e) (by omega) (by omega)]
  simp
theorem sameInts_l0 (a b : List Int) (hab : a.length = b.length) (hl : a.length < 9223372036854775807) : ∀ (d k i : Nat), i + d = a.length → d < k → scullerref07_SameInts.l0 k a b (i : Int) = some (decide (a.drop i = b.drop i)) := by
  intro d
  induction d with
  | zero =>
    intro k i hi hk
    obtain ⟨k, rfl⟩ : ∃ j, k = j + 1 := ⟨k - 1, by omega⟩
    rw [scullerref07_SameInts.l0, if_neg (by omega), List.drop_of_length_le (by omega), List.drop_of_length_le (by omega)]; simp
  | succ d ih =>
    intro k i hi hk
    obtain ⟨k, rfl⟩ : ∃ j, k = j + 1 := ⟨k - 1, by omega⟩
    have := ih k (i + 1) (by omega) (by omega)
    rw [show ((i + 1 : Nat) : Int) = (i : Int) + 1 by omega] at this
    rw [scullerref07_SameInts.l0, if_pos (by omega), drop_rd' (s := a) (by omega), drop_rd' (s := b) (by omega)]
    (repeat rw [if_pos (by omega)])
    by_cases he : rd a (i : Int) = rd b (i : Int)
    · simp only [he, if_true]
      rw [w64 (x := (i : Int) + 1) (by omega) (by omega), this]
      simp
    · simp only [he, if_false]
      simp [he]
theorem sameInts_eq (a b : List Int) (hl : a.length < 9223372036854775807) (k : Nat) (hk : a.length < k) : scullerref07_SameInts.f k a b = some (decide (a = b)) := by
  unfold scullerref07_SameInts.f
  by_cases h : (a.length : Int) = (b.length : Int)
  · rw [if_pos h]
    have := sameInts_l0 a b (by omega) hl a.length k 0 (by omega) (by omega)
    simpa using this
  · rw [if_neg h, decide_eq_false]
    rintro rfl; exact h rfl
theorem packSame_eq {kd x i o y : Int} {ss bd : List Int} {kd' x' i' o' y' : Int} {ss' bd' : List Int} (hb : Bytes bd) (hb' : Bytes bd') (hl : ss.length < 9223372036854775807) (k : Nat) (hk : ss.length < k) :
    pack_Same.f k kd x i o y ss bd kd' x' i' o' y' ss' bd' = some (decide (kd = kd' ∧ x = x' ∧ i = i' ∧ o = o' ∧ y = y' ∧ ss = ss' ∧ bd = bd')) := by
  unfold pack_Same.f
  rw [equalInts_eq ss ss' hl k hk, equal_eq hb hb']
  by_cases h1 : kd = kd'
  · by_cases h2 : x = x'
    · by_cases h3 : i = i'
      · by_cases h4 : o = o'
        · by_cases h5 : y = y'
          · by_cases h6 : ss = ss'
            · simp [h1, h2, h3, h4, h5, h6]
            · simp [h1, h2, h3, h4, h5, h6]
          · simp [h1, h2, h3, h4, h5]
        · simp [h1, h2, h3, h4]
      · simp [h1, h2, h3]
    · simp [h1, h2]
  · simp [h1]
theorem rpackSame_eq {kd x i o y : Int} {ss bd : List Int} {kd' x' i' o' y' : Int} {ss' bd' : List Int} (hb : Bytes bd) (hb' : Bytes bd') (hl : ss.length < 9223372036854775807) (k : Nat) (hk : ss.length < k) :
    scullerref13_Same.f k kd x i o y ss bd kd' x' i' o' y' ss' bd' = some (decide (kd = kd' ∧ x = x' ∧ i = i' ∧ o = o' ∧ y = y' ∧ ss = ss' ∧ bd = bd')) := by
  unfold scullerref13_Same.f
  rw [sameInts_eq ss ss' hl k hk, str_eq hb hb']
  by_cases h1 : kd = kd'
  · by_cases h2 : x = x'
    · by_cases h3 : i = i'
      · by_cases h4 : o = o'
        · by_cases h5 : y = y'
          · by_cases h6 : ss = ss'
            · simp [h1, h2, h3, h4, h5, h6]
            · simp [h1, h2, h3, h4, h5, h6]
          · simp [h1, h2, h3, h4, h5]
        · simp [h1, h2, h3, h4]
      · simp [h1, h2, h3]
    · simp [h1, h2]
  · simp [h1]
end Go.Proofs.Ytliohoalackhiaa.I
