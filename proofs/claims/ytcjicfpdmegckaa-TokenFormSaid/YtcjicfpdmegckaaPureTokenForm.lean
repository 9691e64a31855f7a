/- TokenForm: the bytes tell the session, the least first, the sum, how many segments, and each one's size: for every session and choices. Conditions: none. -/
import Derived.Test.YtcjicfpdmegckaaOx17
import Derived.Test.YtcjicfpdmegckaaOOAre
namespace Go.Proofs.Ytcjicfpdmegckaa.Pure
open Go.RowKit Go.Proofs.Ytcjicfpdmegckaa.O Go.Proofs.YtcjicfpdmegckaaW.PrintWords Go.Proofs.YtcjicfpdmegckaaW.PrintLast Go.Proofs.YtcjicfpdmegckaaW.PrintMore Go.Proofs.Ytcjicfpdmegckaa.Num Go.Proofs.Ytcjicfpdmegckaa.CrcN

theorem rd_app {a b : List Int} {i : Nat} (_ : i < b.length) : rd (a ++ b) ((a.length + i : Nat) : Int) = rd b (i : Int) := by
  unfold rd
  rw [Int.toNat_natCast, Int.toNat_natCast, List.getD_eq_getElem?_getD, List.getD_eq_getElem?_getD, List.getElem?_append_right (by omega)]
  congr 2; omega
theorem rd_left {a b : List Int} {i : Nat} (h : i < a.length) : rd (a ++ b) (i : Int) = rd a (i : Int) := by
  unfold rd
  rw [Int.toNat_natCast, List.getD_eq_getElem?_getD, List.getD_eq_getElem?_getD, List.getElem?_append_left h]
theorem putL_rd (x : Int) (m i : Nat) (h : i < m) : rd (putL x m) (i : Int) = x / 256 ^ i % 256 := by
  induction m with
  | zero => omega
  | succ m ih =>
    rw [putL]
    by_cases hi : i < m
    · rw [rd_left (by rw [putL_length]; exact hi), ih hi]
    · obtain rfl : i = m := by omega
      have := rd_app (a := putL x i) (b := [x / 256 ^ i % 256]) (i := 0) (by simp)
      rw [putL_length, Nat.add_zero] at this
      rw [this]; rfl
theorem twos_rd (ss : List Int) : ∀ (i : Nat), i < ss.length → rd (twos ss) ((2 * i : Nat) : Int) = rd ss (i : Int) % 256 ∧ rd (twos ss) ((2 * i + 1 : Nat) : Int) = rd ss (i : Int) / 256 % 256 := by
  induction ss with
  | nil => intro i h; simp at h
  | cons x t ih =>
    intro i h
    cases i with
    | zero =>
      have e0 := putL_rd x 2 0 (by omega)
      have e1 := putL_rd x 2 1 (by omega)
      have f0 := rd_left (a := putL x 2) (b := twos t) (i := 0) (by rw [putL_length]; omega)
      have f1 := rd_left (a := putL x 2) (b := twos t) (i := 1) (by rw [putL_length]; omega)
      refine ⟨?_, ?_⟩
      · show rd (putL x 2 ++ twos t) ((0 : Nat) : Int) = x % 256
        rw [f0, e0]; simp
      · show rd (putL x 2 ++ twos t) ((1 : Nat) : Int) = x / 256 % 256
        rw [f1, e1]; simp
    | succ i =>
      obtain ⟨h0, h1⟩ := ih i (by simpa using h)
      have e : rd (x :: t) ((i + 1 : Nat) : Int) = rd t (i : Int) := by unfold rd; rw [Int.toNat_natCast, Int.toNat_natCast]; rfl
      rw [e]
      have hl := twos_length t
      have hil : i < t.length := by simpa using h
      refine ⟨?_, ?_⟩
      · have := rd_app (a := putL x 2) (b := twos t) (i := 2 * i) (by omega)
        rw [putL_length] at this
        show rd (putL x 2 ++ twos t) ((2 * (i + 1) : Nat) : Int) = _
        rw [show 2 * (i + 1) = 2 + 2 * i by omega, this, h0]
      · have := rd_app (a := putL x 2) (b := twos t) (i := 2 * i + 1) (by omega)
        rw [putL_length] at this
        show rd (putL x 2 ++ twos t) ((2 * (i + 1) + 1 : Nat) : Int) = _
        rw [show 2 * (i + 1) + 1 = 2 + (2 * i + 1) by omega, this, h1]
/-- where things stand in an encoded token -/
theorem enc_rd (x : Int) (ss : List Int) (y : Int) (kn : List Int) (z : List Int) : (∀ i : Nat, i < 8 → rd ((encL x ss y kn) ++ z) (i : Int) = x / 256 ^ i % 256) ∧ (∀ i : Nat, i < 4 → rd ((encL x ss y kn) ++ z) ((8 + i : Nat) : Int) = y / 256 ^ i % 256) ∧
    rd ((encL x ss y kn) ++ z) 12 = (ss.length : Int) % 256 ∧ ∀ i : Nat, i < ss.length → rd ((encL x ss y kn) ++ z) ((13 + 2 * i : Nat) : Int) = rd ss (i : Int) % 256 ∧ rd ((encL x ss y kn) ++ z) ((14 + 2 * i : Nat) : Int) = rd ss (i : Int) / 256 % 256 := by
  have e0 : encL x ss y kn ++ z = putL x 8 ++ (putL y 4 ++ (putL ss.length 1 ++ (twos ss ++ (kn ++ z)))) := by unfold encL; simp only [List.append_assoc]
  rw [e0]
  have hl := twos_length ss
  refine ⟨fun i hi => ?_, fun i hi => ?_, ?_, fun i hi => ⟨?_, ?_⟩⟩
  · rw [rd_left (by rw [putL_length]; exact hi), putL_rd x 8 i hi]
  · have := rd_app (a := putL x 8) (b := putL y 4 ++ (putL ss.length 1 ++ (twos ss ++ (kn ++ z)))) (i := i) (by simp only [List.length_append, putL_length]; omega)
    rw [putL_length] at this
    rw [this, rd_left (by rw [putL_length]; exact hi), putL_rd y 4 i hi]
  · have := rd_app (a := putL x 8 ++ putL y 4) (b := putL ss.length 1 ++ (twos ss ++ (kn ++ z))) (i := 0) (by simp only [List.length_append, putL_length]; omega)
    simp only [List.length_append, putL_length, List.append_assoc] at this
    rw [show (12 : Int) = ((8 + 4 + 0 : Nat) : Int) by omega, this, rd_left (by rw [putL_length]; omega), putL_rd _ 1 0 (by omega)]; simp
  · have := rd_app (a := putL x 8 ++ (putL y 4 ++ putL ss.length 1)) (b := twos ss ++ (kn ++ z)) (i := 2 * i) (by simp only [List.length_append]; omega)
    simp only [List.length_append, putL_length, List.append_assoc] at this
    rw [show 13 + 2 * i = 8 + (4 + 1) + 2 * i by omega, this, rd_left (by omega), (twos_rd ss i hi).1]
  · have := rd_app (a := putL x 8 ++ (putL y 4 ++ putL ss.length 1)) (b := twos ss ++ (kn ++ z)) (i := 2 * i + 1) (by simp only [List.length_append]; omega)
    simp only [List.length_append, putL_length, List.append_assoc] at this
    rw [show 14 + 2 * i = 8 + (4 + 1) + (2 * i + 1) by omega, this, rd_left (by omega), (twos_rd ss i hi).2]
theorem form_end (x : Int) (ss : List Int) (y : Int) (kn b : List Int) (hy : 0 ≤ y ∧ y ≤ 4294967295) (h16 : ss.length ≤ 16) (hm : ∀ z ∈ ss, 0 ≤ z ∧ z ≤ 4096) (hbl : 17 + 2 * ss.length ≤ b.length)
    (h8 : ∀ i : Nat, i < 4 → rd b ((8 + i : Nat) : Int) = y / 256 ^ i % 256) (h13 : ∀ i : Nat, i < ss.length → rd b ((13 + 2 * i : Nat) : Int) = rd ss (i : Int) % 256 ∧ rd b ((14 + 2 * i : Nat) : Int) = rd ss (i : Int) / 256 % 256) :
    ∀ (d k i : Nat), i + d = ss.length → d + 45 < k → scullerlaw14_TokenForm.l1 k x b (ss.length : Int) x (i : Int) x ss y kn = some true := by
  intro d
  induction d with
  | zero =>
    intro k i hi hk
    obtain ⟨k, rfl⟩ : ∃ q, k = q + 1 := ⟨k - 1, by omega⟩
    have a0 := h8 0 (by omega)
    have a1 := h8 1 (by omega)
    have a2 := h8 2 (by omega)
    have a3 := h8 3 (by omega)
    rw [show ((8 + 0 : Nat) : Int) = 8 from rfl] at a0
    rw [show ((8 + 1 : Nat) : Int) = 9 from rfl] at a1
    rw [show ((8 + 2 : Nat) : Int) = 10 from rfl] at a2
    rw [show ((8 + 3 : Nat) : Int) = 11 from rfl] at a3
    rw [scullerlaw14_TokenForm.l1, if_neg (by omega), known_eq k (by omega), Option.bind_some, if_pos rfl, if_pos rfl, if_pos (by omega), if_pos (by omega), if_pos (by omega), if_pos (by omega), a0, a1, a2, a3]
    congr 1
    rw [beq_iff_eq]
    have p1 : (256 : Int) ^ 1 = 256 := by decide
    have p2 : (256 : Int) ^ 2 = 65536 := by decide
    have p3 : (256 : Int) ^ 3 = 16777216 := by decide
    rw [Int.pow_zero, p1, p2, p3]
    omega
  | succ d ih =>
    intro k i hi hk
    obtain ⟨k, rfl⟩ : ∃ q, k = q + 1 := ⟨k - 1, by omega⟩
    have hil : i < ss.length := by omega
    have hx : 0 ≤ rd ss (i : Int) ∧ rd ss (i : Int) ≤ 4096 := by
      unfold rd
      rw [Int.toNat_natCast, List.getD_eq_getElem?_getD, List.getElem?_eq_getElem hil]
      exact hm _ (List.getElem_mem hil)
    obtain ⟨g0, g1⟩ := h13 i hil
    have e13 : wrap64 (13 + wrap64 (2 * (i : Int))) = ((13 + 2 * i : Nat) : Int) := by rw [w64 (x := 2 * (i : Int)) (by omega) (by omega), w64 (by omega) (by omega)]; omega
    have e14 : wrap64 (14 + wrap64 (2 * (i : Int))) = ((14 + 2 * i : Nat) : Int) := by rw [w64 (x := 2 * (i : Int)) (by omega) (by omega), w64 (by omega) (by omega)]; omega
    obtain ⟨r, hr⟩ : ∃ r, rd ss (i : Int) = r := ⟨_, rfl⟩
    rw [hr] at hx g0 g1
    rw [scullerlaw14_TokenForm.l1, e13, e14, if_pos (by omega), if_pos (by omega), if_pos (by omega), if_pos (by omega), if_pos (by omega), if_pos (by omega), if_pos (by omega), g0, g1, hr, w64 (x := r % 256) (by omega) (by omega), w64 (x := r / 256 % 256) (by omega) (by omega), w64 (x := 256 * (r / 256 % 256)) (by omega) (by omega), w64 (by omega) (by omega)]
    rw [if_pos (by omega), w64 (x := (i : Int) + 1) (by omega) (by omega), show (i : Int) + 1 = ((i + 1 : Nat) : Int) by omega]
    exact ih k (i + 1) (by omega) (by omega)
theorem form_l0 (x : Int) (hx : 0 ≤ x ∧ x ≤ 18446744073709551615) (ss : List Int) (y : Int) (kn b : List Int) (hbl : 8 ≤ b.length) (h0 : ∀ i : Nat, i < 8 → rd b (i : Int) = x / 256 ^ i % 256) (k0 : Nat)
    (hend : ∀ k, k0 ≤ k → scullerlaw14_TokenForm.l1 k x b (ss.length : Int) x 0 x ss y kn = some true) : ∀ (j k : Nat), j ≤ 8 → j + k0 < k → scullerlaw14_TokenForm.l0 k x b (ss.length : Int) (x / 256 ^ j) ((j : Int) - 1) x ss y kn = some true := by
  intro j
  induction j with
  | zero =>
    intro k _ hk
    obtain ⟨k, rfl⟩ : ∃ q, k = q + 1 := ⟨k - 1, by omega⟩
    rw [scullerlaw14_TokenForm.l0, if_neg (by omega), Int.pow_zero, Int.ediv_one]
    exact hend k (by omega)
  | succ j ih =>
    intro k hj hk
    obtain ⟨k, rfl⟩ : ∃ q, k = q + 1 := ⟨k - 1, by omega⟩
    have e : ((j + 1 : Nat) : Int) - 1 = (j : Int) := by omega
    have hp : (0 : Int) < 256 ^ j := Int.pow_pos (by decide)
    have q0 : 0 ≤ x / 256 ^ j := Int.ediv_nonneg hx.1 (Int.le_of_lt hp)
    have q1 : x / 256 ^ j ≤ x := Int.ediv_le_self _ hx.1
    rw [e, scullerlaw14_TokenForm.l0, if_pos (by omega), if_pos (by omega), if_pos (by omega), h0 j (by omega), div256, w64 (x := (j : Int) - 1) (by omega) (by omega)]
    generalize hq : x / 256 ^ j = q at q0 q1 ih
    rw [u64id (x := 256 * (q / 256)) (by omega) (by omega), u64id (x := q % 256) (by omega) (by omega), u64id (by omega) (by omega), show 256 * (q / 256) + q % 256 = q by omega]
    exact ih k (by omega) (by omega)
theorem TokenForm : scullerlaw14_TokenForm.Pure := by
  intro x c n m hx hl hl2 hw hn hm
  have hcb := Bytes.of_wf hw
  have hx := bounds_u64 hx
  have hn := bounds_u8 hn
  have hm := bounds_u8 hm
  obtain ⟨k, hk⟩ : ∃ k, c.length + 500000 < k := ⟨_, Nat.lt_succ_self _⟩
  refine ⟨k + 1, ?_⟩
  obtain ⟨ss, y, kn, e1, ht, hb, hy⟩ := tokG x hx c hcb (by omega) n m hn hm (k + 1) (by omega)
  have hc5 := chunksN_le ss
  obtain ⟨_, h16, _, _, _⟩ := (fitsB_iff ss).1 ht.1
  have hkl := ht.2.1
  have hEl : (sealed (encL x ss y kn)).length = 17 + 2 * ss.length + kn.length := by rw [sealed_length, encL_length]; omega
  obtain ⟨r0, r8, r12, r13⟩ := enc_rd x ss y kn (ints (four (sumN (nats (encL x ss y kn)))))
  have es : encL x ss y kn ++ ints (four (sumN (nats (encL x ss y kn)))) = sealed (encL x ss y kn) := rfl
  rw [es] at r0 r8 r12 r13
  unfold scullerlaw14_TokenForm.f
  rw [e1, Option.bind_some]
  dsimp only
  rw [enc_ok ht hb (x := x) hy (k + 1) (by omega), Option.bind_some]
  dsimp only
  generalize sealed (encL x ss y kn) = b at r0 r8 r12 r13 hEl ⊢
  rw [if_pos rfl, w64 (x := 2 * (ss.length : Int)) (by omega) (by omega), w64 (x := 13 + 2 * (ss.length : Int)) (by omega) (by omega), w64 (x := 13 + 2 * (ss.length : Int) + (kn.length : Int)) (by omega) (by omega), w64 (by omega) (by omega), if_pos (by omega), if_pos (by omega), r12,
    w64 (x := (ss.length : Int) % 256) (by omega) (by omega), scullerlaw14_TokenForm.j0, if_neg (by simp; omega)]
  have := form_l0 x hx ss y kn b (by omega) r0 70 (fun k' hk' => form_end x ss y kn b hy h16 (fits_mem ht.1) (by omega) r8 r13 ss.length k' 0 (by omega) (by omega)) 8 k (by omega) (by omega)
  have p8 : (256 : Int) ^ 8 = 18446744073709551616 := by decide
  rw [p8, show x / 18446744073709551616 = 0 by omega] at this
  exact this
end Go.Proofs.Ytcjicfpdmegckaa.Pure
