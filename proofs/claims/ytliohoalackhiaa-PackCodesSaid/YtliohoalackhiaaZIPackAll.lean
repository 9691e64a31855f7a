/- What pack.Encode and pack.Parse compute, in plain lists of bytes: what was encoded is read back; whatever is read is encoded as the same bytes; the chapter's example. Conditions: those in each theorem. -/
/- The chapter's example; what is too short. Conditions: those in each theorem. -/
/- A datagram is the same as itself, by the document's word. Conditions: those in each theorem. -/
/- The datagrams made of choices may be. Conditions: those in each theorem. -/
import Derived.Test.YtliohoalackhiaaZIgPackP
import Derived.Test.YtliohoalackhiaaZIIBase
import Derived.Test.YtliohoalackhiaaZIx6
import Derived.Test.YtliohoalackhiaaZIx13
import Derived.Test.YtliohoalackhiaaZIx7
namespace Go.Proofs.Ytliohoalackhiaa.I
set_option linter.unusedVariables false
open Go.RowKit Go.Proofs.YtliohoalackhiaaW.PrintWords Go.Proofs.YtliohoalackhiaaW.PrintLast Go.Proofs.YtliohoalackhiaaW.PrintMore Go.Proofs.Ytliohoalackhiaa.Num Go.Proofs.Ytliohoalackhiaa.CrcN
theorem putS_eq (x m : Int) : putS x m = putL x (asked m) := by
  unfold putS; rw [put_eq 9 (by omega)]; rfl
/-- a datagram as bytes, but for the sum behind them -/
def packL (kd x i o y : Int) (ss bd : List Int) : List Int := putL kd 1 ++ (putL x 8 ++ (putL i 2 ++ (putL o 2 ++ (putL y 4 ++ (twos ss ++ bd)))))
theorem packL_length (kd x i o y : Int) (ss bd : List Int) : (packL kd x i o y ss bd).length = 17 + 2 * ss.length + bd.length := by
  unfold packL; simp only [List.length_append, putL_length, twos_length]; omega
theorem packL_bytes (kd x i o y : Int) (ss : List Int) {bd : List Int} (h : Bytes bd) : Bytes (packL kd x i o y ss bd) :=
  (putL_bytes _ _).append ((putL_bytes _ _).append ((putL_bytes _ _).append ((putL_bytes _ _).append ((putL_bytes _ _).append ((twos_bytes _).append h)))))
/-- a datagram that may be -/
structure PackOK (kd i o : Int) (ss bd : List Int) : Prop where
  k : 1 ≤ kd ∧ kd ≤ 8
  i : 0 ≤ i ∧ i ≤ 65535
  o : 0 ≤ o ∧ o ≤ 65535
  s : (ss.length : Int) ≤ (if kd = 1 then 4 else 0)
  b : (bd.length : Int) ≤ (if 2 ≤ kd ∧ kd ≤ 4 then 64 else 0)
  m : ∀ x ∈ ss, 0 ≤ x ∧ x ≤ 4096
theorem packB_iff (kd i o : Int) (ss bd : List Int) : packB kd i o ss bd = true ↔ PackOK kd i o ss bd := by
  unfold packB
  rw [decide_eq_true_iff]
  exact ⟨fun ⟨a, b, c, d, e, f⟩ => ⟨a, b, c, d, e, f⟩, fun ⟨a, b, c, d, e, f⟩ => ⟨a, b, c, d, e, f⟩⟩
theorem PackOK.ss4 {kd i o : Int} {ss bd : List Int} (h : PackOK kd i o ss bd) : ss.length ≤ 4 ∧ bd.length ≤ 64 ∧ (kd = 1 → bd = []) ∧ (kd ≠ 1 → ss = []) := by
  have hs := h.s
  have hb := h.b
  refine ⟨by split at hs <;> omega, by split at hb <;> omega, fun e => ?_, fun e => ?_⟩
  · rw [if_neg (by omega)] at hb
    exact List.eq_nil_of_length_eq_zero (by omega)
  · rw [if_neg e] at hs
    exact List.eq_nil_of_length_eq_zero (by omega)
theorem flat_twos (ss : List Int) (h : ∀ x ∈ ss, 0 ≤ x ∧ x ≤ 4096) : ss.flatMap (fun x => putS (IntKind.u64.wrap x) 2) = twos ss := by
  induction ss with
  | nil => rfl
  | cons x t ih =>
    obtain ⟨h0, h1⟩ := h x List.mem_cons_self
    rw [List.flatMap_cons, ih (fun z hz => h z (List.mem_cons_of_mem _ hz)), putS_eq, u64id h0 (by omega)]; rfl
theorem isInt_any {x : Int} (h0 : -9223372036854775808 ≤ x) (h1 : x ≤ 9223372036854775807) : isInt x := ⟨h0, h1⟩
theorem pack_enc_ok {kd x i o y : Int} {ss bd : List Int} (h : PackOK kd i o ss bd) (hb : Bytes bd) (hy : 0 ≤ y ∧ y ≤ 4294967295) (k : Nat) (hk : 40 < k) : pack_Encode.f k kd x i o y ss bd = some (sealed (packL kd x i o y ss bd), 0) := by
  have hk0 := h.k
  have hi := h.i
  have ho := h.o
  obtain ⟨h4, h64, _, _⟩ := h.ss4
  have e : (packF kd x i o y ++ ss.flatMap (fun x => putS (IntKind.u64.wrap x) 2)) ++ bd = packL kd x i o y ss bd := by
    unfold packF packFL packL
    rw [flat_twos ss h.m]
    simp only [List.flatMap_cons, List.flatMap_nil, List.append_nil]
    rw [putS_eq, putS_eq, putS_eq, putS_eq, putS_eq, u64id (x := kd) (by omega) (by omega), u64id (x := i) (by omega) (by omega), u64id (x := o) (by omega) (by omega), u64id (x := y) (by omega) (by omega)]
    simp only [List.append_assoc, show asked 1 = 1 by decide, show asked 8 = 8 by decide, show asked 2 = 2 by decide, show asked 4 = 4 by decide]
  unfold pack_Encode.f
  rw [if_pos (isInt_any (by omega) (by omega)), if_pos ((packB_iff _ _ _ _ _).2 h), e, seal_sealed k (by omega) _ (packL_bytes _ _ _ _ _ _ hb) (by rw [packL_length]; omega)]; rfl
theorem pack_enc_no {kd x i o y : Int} {ss bd : List Int} (h : ¬ PackOK kd i o ss bd) (hi : isInt kd) (k : Nat) : pack_Encode.f k kd x i o y ss bd = some ([], 1) := by
  unfold pack_Encode.f
  rw [if_pos hi, if_neg (fun e => h ((packB_iff _ _ _ _ _).1 e))]
theorem getN_eq' {l : List Int} (h : Bytes l) : getN l = getL (l.take 8) := Option.some.inj (get_eq l h)
theorem getN_bd' {l : List Int} (h : Bytes l) (m : Nat) (hl : l.length ≤ m) (hm : m ≤ 8) : 0 ≤ getN l ∧ getN l < 256 ^ m := by
  rw [getN_eq' h]
  have hb := getL_bound (l.take 8) (h.take 8)
  refine ⟨hb.1, Int.lt_of_lt_of_le hb.2 (pow_le256 ?_)⟩
  rw [List.length_take]; omega
theorem getN_put (n : Int) (m : Nat) (hm : m ≤ 8) : getN (putL n m) = n % 256 ^ m := by
  rw [getN_eq' (putL_bytes n m), List.take_of_length_le (by rw [putL_length]; exact hm), getL_putL]
theorem mid_app (a b c : List Int) (lo hi : Nat) (ha : a.length = lo) (hb : a.length + b.length = hi) : mid (a ++ (b ++ c)) lo hi = b := by
  unfold mid
  rw [← List.append_assoc, List.take_left' (by rw [List.length_append]; exact hb), ← ha, List.drop_left]
theorem mid_bytes {l : List Int} (h : Bytes l) (lo hi : Nat) : Bytes (mid l lo hi) := (h.take _).drop _
theorem mid_length (l : List Int) (lo hi : Nat) (h : hi ≤ l.length) : (mid l lo hi).length = hi - lo := by
  unfold mid; rw [List.length_drop, List.length_take]; omega
theorem pairs_twos (ss : List Int) (h : ∀ x ∈ ss, 0 ≤ x ∧ x ≤ 4096) : (pairs (twos ss)).map (fun p => wrap64 (getN p)) = ss := by
  induction ss with
  | nil => rfl
  | cons x t ih =>
    obtain ⟨h0, h1⟩ := h x List.mem_cons_self
    have e : putL x 2 = [x / 256 ^ 0 % 256, x / 256 ^ 1 % 256] := rfl
    have e2 : pairs (twos (x :: t)) = putL x 2 :: pairs (twos t) := by
      show pairs (putL x 2 ++ twos t) = _
      rw [e]; rfl
    have p2 : (256 : Int) ^ 2 = 65536 := by decide
    rw [e2, List.map_cons, ih (fun z hz => h z (List.mem_cons_of_mem _ hz)), getN_put x 2 (by omega), p2, w64 (by omega) (by omega), show x % 65536 = x by omega]
/-- where things stand in an encoded datagram -/
theorem pack_mid (kd x i o y : Int) (ss bd : List Int) (z : List Int) (hz : z.length = 4) (hkd : 0 ≤ kd ∧ kd ≤ 255) (hx : 0 ≤ x ∧ x ≤ 18446744073709551615) (hi : 0 ≤ i ∧ i ≤ 65535) (ho : 0 ≤ o ∧ o ≤ 65535) (hy : 0 ≤ y ∧ y ≤ 4294967295) :
    rd (packL kd x i o y ss bd ++ z) 0 = kd ∧ getN (mid (packL kd x i o y ss bd ++ z) 1 9) = x ∧ wrap64 (getN (mid (packL kd x i o y ss bd ++ z) 9 11)) = i ∧ wrap64 (getN (mid (packL kd x i o y ss bd ++ z) 11 13)) = o ∧
      IntKind.u32.wrap (getN (mid (packL kd x i o y ss bd ++ z) 13 17)) = y ∧ mid (packL kd x i o y ss bd ++ z) 17 ((packL kd x i o y ss bd ++ z).length - 4) = twos ss ++ bd := by
  have p1 : (256 : Int) ^ 1 = 256 := by decide
  have p8 : (256 : Int) ^ 8 = 18446744073709551616 := by decide
  have p2 : (256 : Int) ^ 2 = 65536 := by decide
  have p4 : (256 : Int) ^ 4 = 4294967296 := by decide
  have e1 : putL kd 1 = [kd] := by
    show [kd / 256 ^ 0 % 256] = _
    rw [Int.pow_zero, Int.ediv_one, show kd % 256 = kd by omega]
  have e0 : packL kd x i o y ss bd ++ z = putL kd 1 ++ (putL x 8 ++ (putL i 2 ++ (putL o 2 ++ (putL y 4 ++ ((twos ss ++ bd) ++ z))))) := by unfold packL; simp only [List.append_assoc]
  have hlen : (packL kd x i o y ss bd ++ z).length = 21 + 2 * ss.length + bd.length := by rw [List.length_append, packL_length, hz]; omega
  have a1 := mid_app (putL kd 1) (putL x 8) (putL i 2 ++ (putL o 2 ++ (putL y 4 ++ ((twos ss ++ bd) ++ z)))) 1 9 (putL_length _ _) (by simp only [putL_length])
  have a2 := mid_app (putL kd 1 ++ putL x 8) (putL i 2) (putL o 2 ++ (putL y 4 ++ ((twos ss ++ bd) ++ z))) 9 11 (by simp only [List.length_append, putL_length]) (by simp only [List.length_append, putL_length])
  have a3 := mid_app ((putL kd 1 ++ putL x 8) ++ putL i 2) (putL o 2) (putL y 4 ++ ((twos ss ++ bd) ++ z)) 11 13 (by simp only [List.length_append, putL_length]) (by simp only [List.length_append, putL_length])
  have a4 := mid_app (((putL kd 1 ++ putL x 8) ++ putL i 2) ++ putL o 2) (putL y 4) ((twos ss ++ bd) ++ z) 13 17 (by simp only [List.length_append, putL_length]) (by simp only [List.length_append, putL_length])
  have a5 := mid_app ((((putL kd 1 ++ putL x 8) ++ putL i 2) ++ putL o 2) ++ putL y 4) (twos ss ++ bd) z 17 ((packL kd x i o y ss bd ++ z).length - 4) (by simp only [List.length_append, putL_length]) (by rw [hlen]; simp only [List.length_append, putL_length, twos_length]; omega)
  simp only [List.append_assoc] at a1 a2 a3 a4 a5 e0
  have hw : IntKind.u32.wrap (y % 4294967296) = y := by simp [IntKind.wrap, IntKind.bits, IntKind.signed]; omega
  refine ⟨by rw [e0, e1]; rfl, ?_, ?_, ?_, ?_, ?_⟩
  · rw [e0, a1, getN_put _ _ (by omega), p8]; omega
  · rw [e0, a2, getN_put _ _ (by omega), p2, w64 (by omega) (by omega)]; omega
  · rw [e0, a3, getN_put _ _ (by omega), p2, w64 (by omega) (by omega)]; omega
  · rw [e0, a4, getN_put _ _ (by omega), p4, hw]
  · have l5 : (packL kd x i o y ss bd ++ z).length = (putL kd 1 ++ (putL x 8 ++ (putL i 2 ++ (putL o 2 ++ (putL y 4 ++ (twos ss ++ (bd ++ z))))))).length := by rw [e0]
    rw [e0] at a5 ⊢
    exact a5
theorem clone_some' {l : List Int} (hl : l.length < 140737488355328) : bytes_Clone.f l = some l := by
  unfold bytes_Clone.f; rw [if_pos hl]
theorem pack_back {kd x i o y : Int} {ss bd : List Int} (h : PackOK kd i o ss bd) (hb : Bytes bd) (hx : 0 ≤ x ∧ x ≤ 18446744073709551615) (hy : 0 ≤ y ∧ y ≤ 4294967295) (k : Nat) (hk : 40 < k) : pack_Parse.f k (sealed (packL kd x i o y ss bd)) = some (kd, x, i, o, y, ss, bd, 0) := by
  obtain ⟨h4, h64, n1, n2⟩ := h.ss4
  have hkd := h.k
  have hL := packL_bytes kd x i o y ss hb
  have hl := packL_length kd x i o y ss bd
  obtain ⟨m0, m1, m2, m3, m4, m5⟩ := pack_mid kd x i o y ss bd (ints (four (sumN (nats (packL kd x i o y ss bd))))) (four_length _) (by omega) hx h.i h.o hy
  have es : packL kd x i o y ss bd ++ ints (four (sumN (nats (packL kd x i o y ss bd)))) = sealed (packL kd x i o y ss bd) := rfl
  rw [es] at m0 m1 m2 m3 m4 m5
  unfold pack_Parse.f parseK parseX parseI parseO parseY parseS parseB
  have hk63 : wrap64 kd = kd := w64 (by omega) (by omega)
  rw [if_neg (by rw [sealed_length]; omega), if_neg (by rw [sealed_length]; omega), right_sealed k (by omega) _ hL (by omega), Option.bind_some, if_pos rfl, m5, clone_some' (by rw [List.length_append, twos_length]; omega), Option.bind_some, m0, m1, m2, m3, m4, hk63]
  by_cases e : kd = 1
  · have := n1 e
    subst this
    rw [if_pos e, if_pos e, List.append_nil, pairs_twos ss h.m, pack_enc_ok h hb hy k hk, Option.bind_some]
    dsimp only
    rw [if_pos rfl, equal_eq (sealed_bytes hL) (sealed_bytes hL), Option.bind_some, if_pos (by simp)]
  · have := n2 e
    subst this
    rw [if_neg e, if_neg e]
    simp only [twos, List.nil_append]
    rw [pack_enc_ok h hb hy k hk, Option.bind_some]
    dsimp only
    rw [if_pos rfl, equal_eq (sealed_bytes hL) (sealed_bytes hL), Option.bind_some, if_pos (by simp)]
/-- What pack.Parse tells of whatever bytes. -/
theorem pack_any {b : List Int} (hb : Bytes b) (hl : b.length ≤ 1000000) (k : Nat) (hk : 40 < k) : ∃ kd x i o y ss bd e, pack_Parse.f k b = some (kd, x, i, o, y, ss, bd, e) ∧ Bytes bd ∧ (e ≠ 0 → kd = 0 ∧ x = 0 ∧ i = 0 ∧ o = 0 ∧ y = 0 ∧ ss = [] ∧ bd = []) ∧
    ((b.length < 21 ∧ e = 10) ∨ (21 ≤ b.length ∧ crc_Right.f k b = some false ∧ e = 12) ∨
      (21 ≤ b.length ∧ crc_Right.f k b = some true ∧ e = 11 ∧ ∀ kd x i o y ss bd, (0 ≤ x ∧ x ≤ 18446744073709551615) → (0 ≤ y ∧ y ≤ 4294967295) → Bytes bd → PackOK kd i o ss bd → b ≠ sealed (packL kd x i o y ss bd)) ∨
      (21 ≤ b.length ∧ crc_Right.f k b = some true ∧ e = 0 ∧ PackOK kd i o ss bd ∧ b = sealed (packL kd x i o y ss bd) ∧ (0 ≤ x ∧ x ≤ 18446744073709551615) ∧ (0 ≤ y ∧ y ≤ 4294967295))) := by
  have h0 : Bytes ([] : List Int) := fun x hx => by cases hx
  by_cases hex : ∃ kd x i o y ss bd, ((0 ≤ x ∧ x ≤ 18446744073709551615) ∧ (0 ≤ y ∧ y ≤ 4294967295)) ∧ Bytes bd ∧ PackOK kd i o ss bd ∧ b = sealed (packL kd x i o y ss bd)
  · obtain ⟨kd, x, i, o, y, ss, bd, ⟨hx, hy⟩, hbd, h, rfl⟩ := hex
    exact ⟨kd, x, i, o, y, ss, bd, 0, pack_back h hbd hx hy k hk, hbd, fun q => absurd rfl q, .inr (.inr (.inr ⟨by rw [sealed_length, packL_length]; omega, right_sealed k (by omega) _ (packL_bytes _ _ _ _ _ _ hbd) (by rw [sealed_length] at hl; omega), rfl, h, rfl, hx, hy⟩))⟩
  · have hno : ∀ kd x i o y ss bd, (0 ≤ x ∧ x ≤ 18446744073709551615) → (0 ≤ y ∧ y ≤ 4294967295) → Bytes bd → PackOK kd i o ss bd → b ≠ sealed (packL kd x i o y ss bd) :=
      fun kd x i o y ss bd a1 a2 a3 a4 a5 => hex ⟨kd, x, i, o, y, ss, bd, ⟨a1, a2⟩, a3, a4, a5⟩
    unfold pack_Parse.f parseK parseX parseI parseO parseY parseS parseB
    rw [if_neg (by omega)]
    by_cases h21 : (b.length : Int) < 21
    · rw [if_pos h21]
      exact ⟨_, _, _, _, _, _, _, _, rfl, h0, fun _ => ⟨rfl, rfl, rfl, rfl, rfl, rfl, rfl⟩, .inl ⟨by omega, rfl⟩⟩
    · rw [if_neg h21]
      obtain ⟨r, hr⟩ : ∃ r, crc_Right.f k b = some r := ⟨_, right_eq k (by omega) b hb (by omega)⟩
      rw [hr, Option.bind_some]
      cases r with
      | false =>
        rw [if_neg (by simp)]
        exact ⟨_, _, _, _, _, _, _, _, rfl, h0, fun _ => ⟨rfl, rfl, rfl, rfl, rfl, rfl, rfl⟩, .inr (.inl ⟨by omega, rfl, rfl⟩)⟩
      | true =>
        have hrl : (mid b 17 (b.length - 4)).length ≤ 1000000 := by rw [mid_length _ _ _ (by omega)]; omega
        have hrb := mid_bytes hb 17 (b.length - 4)
        rw [if_pos rfl, clone_some' (by omega), Option.bind_some]
        have x1 := getN_bd' (mid_bytes hb 1 9) 8 (by rw [mid_length _ _ _ (by omega)]; omega) (by omega)
        have p8 : (256 : Int) ^ 8 = 18446744073709551616 := by decide
        have hw : ∀ q, 0 ≤ IntKind.u32.wrap q ∧ IntKind.u32.wrap q ≤ 4294967295 := fun q => by simp [IntKind.wrap, IntKind.bits, IntKind.signed]; omega
        have y1 := hw (getN (mid b 13 17))
        generalize getN (mid b 1 9) = x at x1 ⊢
        generalize IntKind.u32.wrap (getN (mid b 13 17)) = y at y1 ⊢
        generalize wrap64 (getN (mid b 9 11)) = i
        generalize wrap64 (getN (mid b 11 13)) = o
        have hki : isInt (wrap64 (rd b 0)) := by unfold isInt wrap64; omega
        generalize wrap64 (rd b 0) = kd at hki ⊢
        have hbd : Bytes (if kd = 1 then [] else mid b 17 (b.length - 4)) := by split <;> assumption
        generalize (if kd = 1 then [] else mid b 17 (b.length - 4)) = bd at hbd ⊢
        generalize (if kd = 1 then (pairs (mid b 17 (b.length - 4))).map (fun p => wrap64 (getN p)) else []) = ss
        refine ⟨0, 0, 0, 0, 0, [], [], 11, ?_, h0, fun _ => ⟨rfl, rfl, rfl, rfl, rfl, rfl, rfl⟩, .inr (.inr (.inl ⟨by omega, rfl, rfl, hno⟩))⟩
        by_cases h : PackOK kd i o ss bd
        · rw [pack_enc_ok h hbd y1 k hk, Option.bind_some]
          dsimp only
          rw [if_pos rfl, equal_eq hb (sealed_bytes (packL_bytes kd x i o y ss hbd)), Option.bind_some, if_neg]
          simpa using hno kd x i o y ss bd (by omega) y1 hbd h
        · rw [pack_enc_no h hki, Option.bind_some]
          dsimp only
          rw [if_neg (by omega)]
end Go.Proofs.Ytliohoalackhiaa.I
namespace Go.Proofs.Ytliohoalackhiaa.I
set_option linter.unusedVariables false
open Go.RowKit Go.Proofs.YtliohoalackhiaaW.PrintWords Go.Proofs.YtliohoalackhiaaW.PrintLast Go.Proofs.YtliohoalackhiaaW.PrintMore Go.Proofs.Ytliohoalackhiaa.Num Go.Proofs.Ytliohoalackhiaa.CrcN
theorem pack_tooshort (k : Nat) (l : List Int) (h : l.length < 21) : pack_Parse.f k l = some (0, 0, 0, 0, 0, [], [], 10) := by
  unfold pack_Parse.f
  rw [if_neg (by omega), if_pos (by omega)]
theorem pack_short (k : Nat) : pack_Parse.f k [] = some (0, 0, 0, 0, 0, [], [], 10) := pack_tooshort k [] (by simp)
theorem pknown_eq (k : Nat) (hk : 40 < k) : scullerlaw13_known.f k = some true := by
  have h : PackOK 6 0 0 [] [] := ⟨by omega, by omega, by omega, by simp, by simp, by simp⟩
  have h0 : Bytes ([] : List Int) := fun x hx => by cases hx
  have e := pack_enc_ok (x := 0) h h0 (y := 0) (by omega) k hk
  have p := pack_back (x := 0) h h0 (y := 0) (by omega) (by omega) k hk
  have hl : (sealed (packL 6 0 0 0 0 [] [])).length = 21 := by rw [sealed_length, packL_length]; rfl
  have hr : rd (sealed (packL 6 0 0 0 0 [] [])) 0 = 6 := by rfl
  unfold scullerlaw13_known.f
  rw [e, Option.bind_some]
  dsimp only
  rw [p, Option.bind_some, pack_short, Option.bind_some]
  dsimp only
  rw [if_pos rfl, hl, if_pos (by omega), if_pos (by omega), hr, if_pos rfl, if_pos rfl, if_pos rfl]
  rfl
end Go.Proofs.Ytliohoalackhiaa.I
namespace Go.Proofs.Ytliohoalackhiaa.I
set_option linter.unusedVariables false
open Go.RowKit Go.Proofs.YtliohoalackhiaaW.PrintWords Go.Proofs.YtliohoalackhiaaW.PrintLast Go.Proofs.YtliohoalackhiaaW.PrintMore Go.Proofs.Ytliohoalackhiaa.Num Go.Proofs.Ytliohoalackhiaa.CrcN
theorem sameSelf_l0 (a : List Int) (hl : a.length < 9223372036854775807) : ∀ (d k i : Nat), i + d = a.length → d < k → scullerref07_SameInts.l0 k a a (i : Int) = some true := by
  intro d
  induction d with
  | zero =>
    intro k i hi hk
    obtain ⟨k, rfl⟩ : ∃ j, k = j + 1 := ⟨k - 1, by omega⟩
    rw [scullerref07_SameInts.l0, if_neg (by omega)]
  | succ d ih =>
    intro k i hi hk
    obtain ⟨k, rfl⟩ : ∃ j, k = j + 1 := ⟨k - 1, by omega⟩
    have := ih k (i + 1) (by omega) (by omega)
    rw [show ((i + 1 : Nat) : Int) = (i : Int) + 1 by omega] at this
    rw [scullerref07_SameInts.l0, if_pos (by omega)]
    (repeat rw [if_pos (by omega)])
    rw [w64 (x := (i : Int) + 1) (by omega) (by omega), this]
theorem rpackSame_self {kd x i o y : Int} {ss bd : List Int} (hl : ss.length < 9223372036854775807) (k : Nat) (hk : ss.length < k) : scullerref13_Same.f k kd x i o y ss bd kd x i o y ss bd = some true := by
  have h := sameSelf_l0 ss hl ss.length k 0 (by omega) hk
  unfold scullerref13_Same.f scullerref07_SameInts.f
  rw [if_pos rfl, if_pos rfl, if_pos rfl, if_pos rfl, if_pos rfl, if_pos rfl]
  simp only [Int.natCast_zero] at h
  first
    | (rw [h, Option.bind_some, if_pos rfl]; simp)
    | (rw [show (0 : Int) = ((0 : Nat) : Int) from rfl, h, Option.bind_some, if_pos rfl]; simp)
end Go.Proofs.Ytliohoalackhiaa.I
namespace Go.Proofs.Ytliohoalackhiaa.I
set_option linter.unusedVariables false
open Go.RowKit Go.Proofs.YtliohoalackhiaaW.PrintWords Go.Proofs.YtliohoalackhiaaW.PrintLast Go.Proofs.YtliohoalackhiaaW.PrintMore Go.Proofs.Ytliohoalackhiaa.Num Go.Proofs.Ytliohoalackhiaa.CrcN
end Go.Proofs.Ytliohoalackhiaa.I
