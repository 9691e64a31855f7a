/- What token.Decode computes: what was encoded is read back; whatever is read is encoded as the same bytes; the chapter's example. Conditions: those in each theorem. -/
import Derived.Test.YtcjicfpdmegckaaKTokP
namespace Go.Proofs.Ytcjicfpdmegckaa.K
open Go.RowKit Go.Proofs.YtcjicfpdmegckaaW.PrintWords Go.Proofs.YtcjicfpdmegckaaW.PrintLast Go.Proofs.YtcjicfpdmegckaaW.PrintMore Go.Proofs.Ytcjicfpdmegckaa.Num Go.Proofs.Ytcjicfpdmegckaa.CrcN

theorem getN_eq {l : List Int} (h : Bytes l) : getN l = getL (l.take 8) := Option.some.inj (get_eq l h)
theorem getN_bd {l : List Int} (h : Bytes l) (m : Nat) (hm : m ≤ 8) : 0 ≤ getN (l.take m) ∧ getN (l.take m) < 256 ^ m := by
  rw [getN_eq (h.take m)]
  have hb := getL_bound ((l.take m).take 8) ((h.take m).take 8)
  refine ⟨hb.1, Int.lt_of_lt_of_le hb.2 (pow_le256 ?_)⟩
  simp only [List.length_take]; omega
theorem decG_app (a b : List Int) (m : Nat) (ha : a.length = m) : decG (a ++ b) (m : Int) = (getN a, b, false) := by
  unfold decG
  rw [if_neg (by rw [List.length_append]; omega), Int.toNat_natCast, ← ha, List.take_left, List.drop_left]
theorem getN_putL (n : Int) (m : Nat) (hm : m ≤ 8) : getN (putL n m) = n % 256 ^ m := by
  rw [getN_eq (putL_bytes n m), List.take_of_length_le (by rw [putL_length]; exact hm), getL_putL]
theorem decL_twos (ss : List Int) (hs : ∀ x ∈ ss, 0 ≤ x ∧ x ≤ 4096) (kn : List Int) : ∀ (xs : List Int) (b : Bool), decL ss.length (twos ss ++ kn) xs b = (xs ++ ss, kn, b) := by
  induction ss with
  | nil => intro xs b; simp [decL, twos]
  | cons x t ih =>
    intro xs b
    obtain ⟨h0, h1⟩ := hs x List.mem_cons_self
    have e := decG_app (putL x 2) (twos t ++ kn) 2 (putL_length x 2)
    rw [getN_putL x 2 (by omega)] at e
    have e2 : twos (x :: t) ++ kn = putL x 2 ++ (twos t ++ kn) := by simp only [twos, List.append_assoc]
    have e3 : x % 256 ^ 2 = x := by have : (256 : Int) ^ 2 = 65536 := by decide
                                    omega
    rw [List.length_cons, decL, e2]
    rw [show ((2 : Nat) : Int) = 2 from rfl] at e
    rw [e, e3]
    simp only [Bool.or_false]
    rw [w64 (by omega) (by omega), ih (fun z hz => hs z (List.mem_cons_of_mem _ hz))]
    simp
theorem decP_enc {x : Int} {ss : List Int} {y : Int} {kn : List Int} (hx : 0 ≤ x ∧ x ≤ 18446744073709551615) (hy : 0 ≤ y ∧ y ≤ 4294967295) (h16 : ss.length ≤ 16) (hs : ∀ x ∈ ss, 0 ≤ x ∧ x ≤ 4096) :
    decP (encL x ss y kn) = (x, y, ss, kn, false) ∧ decM (encL x ss y kn) = (ss.length : Int) := by
  have p8 : (256 : Int) ^ 8 = 18446744073709551616 := by decide
  have p4 : (256 : Int) ^ 4 = 4294967296 := by decide
  have p1 : (256 : Int) ^ 1 = 256 := by decide
  have e1 := decG_app (putL x 8) (putL y 4 ++ (putL ss.length 1 ++ (twos ss ++ kn))) 8 (putL_length _ _)
  have e2 := decG_app (putL y 4) (putL ss.length 1 ++ (twos ss ++ kn)) 4 (putL_length _ _)
  have e3 := decG_app (putL ss.length 1) (twos ss ++ kn) 1 (putL_length _ _)
  rw [getN_putL _ _ (by omega), p8, Int.emod_eq_of_lt hx.1 (by omega)] at e1
  rw [getN_putL _ _ (by omega), p4, Int.emod_eq_of_lt hy.1 (by omega)] at e2
  rw [getN_putL _ _ (by omega), p1, Int.emod_eq_of_lt (by omega) (by omega)] at e3
  rw [show ((8 : Nat) : Int) = 8 from rfl] at e1
  rw [show ((4 : Nat) : Int) = 4 from rfl] at e2
  rw [show ((1 : Nat) : Int) = 1 from rfl] at e3
  have e0 : encL x ss y kn = putL x 8 ++ (putL y 4 ++ (putL ss.length 1 ++ (twos ss ++ kn))) := by unfold encL; simp only [List.append_assoc]
  have hw : IntKind.u32.wrap y = y := by simp [IntKind.wrap, IntKind.bits, IntKind.signed]; omega
  unfold decP decM
  rw [e0]
  simp only [e1, e2, e3, Bool.or_false, Int.toNat_natCast, decL_twos ss hs kn [] false, List.nil_append, hw, and_self]
theorem clone_some {l : List Int} (hl : l.length < 140737488355328) : bytes_Clone.f l = some l := by
  unfold bytes_Clone.f; rw [if_pos hl]
theorem dec_back {x : Int} {ss : List Int} {y : Int} {kn : List Int} (h : TokOK ss kn) (hb : Bytes kn) (hx : 0 ≤ x ∧ x ≤ 18446744073709551615) (hy : 0 ≤ y ∧ y ≤ 4294967295) (k : Nat) (hk : 40 < k) : token_Decode.f k (sealed (encL x ss y kn)) = some (x, ss, y, kn, 0) := by
  have hc := chunksN_le ss
  have hkl : kn.length ≤ 100 := by have := h.2.1; omega
  obtain ⟨h1, h16, _, _, _⟩ := (fitsB_iff ss).1 h.1
  have hE := encL_bytes x ss y hb
  have hl := encL_length x ss y kn
  obtain ⟨hP, hM⟩ := decP_enc (kn := kn) hx hy h16 (fits_mem h.1)
  unfold token_Decode.f
  rw [if_neg (by rw [sealed_length]; omega), right_sealed k (by omega) _ hE (by omega), Option.bind_some, if_pos rfl, sealed_take, hP, hM, if_pos (by omega)]
  simp only []
  rw [clone_some (by omega), Option.bind_some, enc_ok h hb hy k (by omega), Option.bind_some]
  simp only []
  rw [equal_eq (sealed_bytes hE) (sealed_bytes hE), Option.bind_some]
  simp
theorem decG_rest (l : List Int) (j : Int) : (decG l j).2.1.length ≤ l.length ∧ (Bytes l → Bytes (decG l j).2.1) := by
  unfold decG
  split
  · exact ⟨Nat.le_refl _, fun h => h⟩
  · exact ⟨by simp, fun h => h.drop _⟩
theorem decL_rest : ∀ (n : Nat) (l xs : List Int) (b : Bool), (decL n l xs b).2.1.length ≤ l.length ∧ (Bytes l → Bytes (decL n l xs b).2.1) := by
  intro n
  induction n with
  | zero => intro l xs b; exact ⟨Nat.le_refl _, fun h => h⟩
  | succ n ih =>
    intro l xs b
    obtain ⟨h1, h2⟩ := ih (decG l 2).2.1 (xs ++ [wrap64 (decG l 2).1]) (b || (decG l 2).2.2)
    obtain ⟨g1, g2⟩ := decG_rest l 2
    exact ⟨Nat.le_trans h1 g1, fun h => h2 (g2 h)⟩
theorem decP_rest (l : List Int) : (decP l).2.2.2.1.length ≤ l.length ∧ (Bytes l → Bytes (decP l).2.2.2.1) := by
  unfold decP
  dsimp only
  obtain ⟨a1, a2⟩ := decG_rest l 8
  obtain ⟨b1, b2⟩ := decG_rest (decG l 8).2.1 4
  obtain ⟨c1, c2⟩ := decG_rest (decG (decG l 8).2.1 4).2.1 1
  obtain ⟨d1, d2⟩ := decL_rest (decG (decG (decG l 8).2.1 4).2.1 1).1.toNat (decG (decG (decG l 8).2.1 4).2.1 1).2.1 [] (((decG l 8).2.2 || (decG (decG l 8).2.1 4).2.2) || (decG (decG (decG l 8).2.1 4).2.1 1).2.2)
  exact ⟨Nat.le_trans d1 (Nat.le_trans c1 (Nat.le_trans b1 a1)), fun h => d2 (c2 (b2 (a2 h)))⟩
theorem decM_le {l : List Int} (h : Bytes l) : decM l ≤ 255 := by
  unfold decM
  obtain ⟨_, a2⟩ := decG_rest l 8
  obtain ⟨_, b2⟩ := decG_rest (decG l 8).2.1 4
  have hb := b2 (a2 h)
  generalize (decG (decG l 8).2.1 4).2.1 = q at hb
  unfold decG
  split
  · dsimp only; omega
  · have := getN_bd hb 1 (by omega)
    have p1 : (256 : Int) ^ 1 = 256 := by decide
    dsimp only
    rw [show (1 : Int).toNat = 1 from rfl]
    omega
theorem decP_bd {l : List Int} (h : Bytes l) : (0 ≤ (decP l).1 ∧ (decP l).1 ≤ 18446744073709551615) ∧ (0 ≤ (decP l).2.1 ∧ (decP l).2.1 ≤ 4294967295) := by
  unfold decP
  dsimp only
  constructor
  · unfold decG
    split
    · dsimp only; omega
    · have := getN_bd h 8 (by omega)
      have p8 : (256 : Int) ^ 8 = 18446744073709551616 := by decide
      dsimp only
      rw [show (8 : Int).toNat = 8 from rfl]
      omega
  · have : IntKind.u32.wrap (decG (decG l 8).2.1 4).1 = (decG (decG l 8).2.1 4).1 % 4294967296 := by simp [IntKind.wrap, IntKind.bits, IntKind.signed]
    omega
/-- What token.Decode tells of whatever bytes. -/
theorem dec_any {b : List Int} (hb : Bytes b) (hl : b.length ≤ 1000000) (k : Nat) (hk : 40 < k) : ∃ x ss y kn e, token_Decode.f k b = some (x, ss, y, kn, e) ∧ Bytes kn ∧ (e ≠ 0 → x = 0 ∧ ss = [] ∧ y = 0 ∧ kn = []) ∧
    ((b.length < 17 ∧ e = 10) ∨ (17 ≤ b.length ∧ crc_Right.f k b = some false ∧ e = 12) ∨ (17 ≤ b.length ∧ crc_Right.f k b = some true ∧ e = 11 ∧ ∀ x ss y kn, (0 ≤ x ∧ x ≤ 18446744073709551615) → (0 ≤ y ∧ y ≤ 4294967295) → Bytes kn → TokOK ss kn → b ≠ sealed (encL x ss y kn)) ∨
      (17 ≤ b.length ∧ crc_Right.f k b = some true ∧ e = 0 ∧ TokOK ss kn ∧ b = sealed (encL x ss y kn) ∧ (0 ≤ x ∧ x ≤ 18446744073709551615) ∧ (0 ≤ y ∧ y ≤ 4294967295))) := by
  have h0 : Bytes ([] : List Int) := fun x hx => by cases hx
  unfold token_Decode.f
  by_cases h17 : (b.length : Int) < 17
  · rw [if_pos h17]
    exact ⟨_, _, _, _, _, rfl, h0, fun _ => ⟨rfl, rfl, rfl, rfl⟩, .inl ⟨by omega, rfl⟩⟩
  · rw [if_neg h17]
    have hr := right_eq k (by omega) b hb (by omega)
    obtain ⟨r, hr⟩ : ∃ r, crc_Right.f k b = some r := ⟨_, hr⟩
    rw [hr, Option.bind_some]
    cases r with
    | false =>
      rw [if_neg (by simp)]
      exact ⟨_, _, _, _, _, rfl, h0, fun _ => ⟨rfl, rfl, rfl, rfl⟩, .inr (.inl ⟨by omega, rfl, rfl⟩)⟩
    | true =>
      have hB : Bytes (b.take (b.length - 4)) := hb.take _
      obtain ⟨hx, hy⟩ := decP_bd hB
      obtain ⟨hr1, hr2⟩ := decP_rest (b.take (b.length - 4))
      have hkl : (decP (b.take (b.length - 4))).2.2.2.1.length ≤ 1000000 := Nat.le_trans hr1 (by rw [List.length_take]; omega)
      have hkb := hr2 hB
      have hne : ∀ x ss y kn, (0 ≤ x ∧ x ≤ 18446744073709551615) → (0 ≤ y ∧ y ≤ 4294967295) → Bytes kn → TokOK ss kn → b = sealed (encL x ss y kn) → decP (b.take (b.length - 4)) = (x, y, ss, kn, false) := by
        intro x ss y kn hx hy hkn ht he
        obtain ⟨_, h16, _, _, _⟩ := (fitsB_iff ss).1 ht.1
        rw [he, sealed_take]
        exact (decP_enc hx hy h16 (fits_mem ht.1)).1
      rw [if_pos rfl, if_pos (decM_le hB), clone_some (by omega), Option.bind_some]
      generalize decP (b.take (b.length - 4)) = d at hx hy hkl hkb hne ⊢
      obtain ⟨x, y, ss, kn, sh⟩ := d
      dsimp only at hx hy hkl hkb ⊢
      by_cases ht : TokOK ss kn
      · rw [enc_ok ht hkb hy k (by omega), Option.bind_some]
        dsimp only
        rw [equal_eq hb (sealed_bytes (encL_bytes x ss y hkb)), Option.bind_some]
        cases sh with
        | true =>
          rw [if_pos rfl]
          refine ⟨_, _, _, _, _, rfl, h0, fun _ => ⟨rfl, rfl, rfl, rfl⟩, .inr (.inr (.inl ⟨by omega, rfl, rfl, fun x' ss' y' kn' a1 a2 a3 a4 he => ?_⟩))⟩
          have := hne x' ss' y' kn' a1 a2 a3 a4 he
          simp at this
        | false =>
          rw [if_neg (by simp), if_pos rfl]
          by_cases he : b = sealed (encL x ss y kn)
          · rw [if_pos (decide_eq_true he)]
            exact ⟨_, _, _, _, _, rfl, hkb, fun h => absurd rfl h, .inr (.inr (.inr ⟨by omega, rfl, rfl, ht, he, hx, hy⟩))⟩
          · rw [if_neg (by simpa using he)]
            refine ⟨_, _, _, _, _, rfl, h0, fun _ => ⟨rfl, rfl, rfl, rfl⟩, .inr (.inr (.inl ⟨by omega, rfl, rfl, fun x' ss' y' kn' a1 a2 a3 a4 he' => ?_⟩))⟩
            have := hne x' ss' y' kn' a1 a2 a3 a4 he'
            simp only [Prod.mk.injEq] at this
            obtain ⟨rfl, rfl, rfl, rfl, _⟩ := this
            exact he he'
      · rw [enc_no ht hkb (by omega) k (by omega), Option.bind_some]
        dsimp only
        rw [equal_eq hb h0, Option.bind_some]
        refine ⟨0, [], 0, [], 11, ?_, h0, fun _ => ⟨rfl, rfl, rfl, rfl⟩, .inr (.inr (.inl ⟨by omega, rfl, rfl, fun x' ss' y' kn' a1 a2 a3 a4 he' => ?_⟩))⟩
        · cases sh <;> simp
        · have := hne x' ss' y' kn' a1 a2 a3 a4 he'
          simp only [Prod.mk.injEq] at this
          obtain ⟨rfl, rfl, rfl, rfl, _⟩ := this
          exact ht a4
end Go.Proofs.Ytcjicfpdmegckaa.K
