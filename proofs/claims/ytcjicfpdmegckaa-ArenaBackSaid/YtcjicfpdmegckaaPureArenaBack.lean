/- ArenaBack: bytes that were cut by their sizes are the arena; each word stands at its place among them: for all choices. Conditions: none. -/
import Derived.Test.YtcjicfpdmegckaaAx21
import Derived.Test.YtcjicfpdmegckaaAABB
namespace Go.Proofs.Ytcjicfpdmegckaa.Pure
open Go.RowKit Go.Proofs.Ytcjicfpdmegckaa.A Go.Proofs.YtcjicfpdmegckaaW.PrintWords Go.Proofs.YtcjicfpdmegckaaW.PrintLast Go.Proofs.YtcjicfpdmegckaaW.PrintMore Go.Proofs.Ytcjicfpdmegckaa.Num Go.Proofs.Ytcjicfpdmegckaa.CrcN

theorem rd_left {a b : List Int} {i : Nat} (h : i < a.length) : rd (a ++ b) (i : Int) = rd a (i : Int) := by
  unfold rd
  rw [Int.toNat_natCast, List.getD_eq_getElem?_getD, List.getD_eq_getElem?_getD, List.getElem?_append_left h]
theorem rd_app {a b : List Int} {i : Nat} (_ : i < b.length) : rd (a ++ b) ((a.length + i : Nat) : Int) = rd b (i : Int) := by
  unfold rd
  rw [Int.toNat_natCast, Int.toNat_natCast, List.getD_eq_getElem?_getD, List.getD_eq_getElem?_getD, List.getElem?_append_right (by omega)]
  congr 2; omega
theorem putL_rd (x : Int) (m i : Nat) (h : i < m) : rd (putL x m) (i : Int) = x / 256 ^ i % 256 := by
  induction m with
  | zero => omega
  | succ m ih =>
    rw [putL]
    by_cases hi : i < m
    · rw [rd_left (by rw [putL_length]; exact hi), ih hi]
    · obtain rfl : i = m := by omega
      have := rd_app (a := putL x i) (b := [x / 256 ^ i % 256]) (i := 0) (by simp)
      rw [putL_length, Nat.add_zero] at this
      rw [this]; rfl
/-- the bytes of the p-th word -/
theorem wbytes_rd (l : List Int) : ∀ (p j : Nat), p < l.length → j < 8 → rd (wbytes l) ((8 * p + j : Nat) : Int) = rd l (p : Int) / 256 ^ j % 256 := by
  induction l with
  | nil => intro p j h; simp at h
  | cons x t ih =>
    intro p j hp hj
    have hx8 : (putL x 8).length = 8 := putL_length x 8
    cases p with
    | zero =>
      rw [show 8 * 0 + j = j by omega, wbytes, rd_left (by omega), putL_rd x 8 j hj]; rfl
    | succ p =>
      have hpt : p < t.length := by simpa using hp
      have e := rd_app (a := putL x 8) (b := wbytes t) (i := 8 * p + j) (by rw [wbytes_length]; omega)
      rw [hx8] at e
      rw [show 8 * (p + 1) + j = 8 + (8 * p + j) by omega, wbytes, e, ih p j hpt hj]
      congr 2
theorem flat_rd (a : List (List Int)) : ∀ (i q : Nat), i < a.length → q < (rd_L3 a (i : Int)).length → ∃ p : Nat, (p : Int) = q + sumI ((lens a).take i) ∧ p < a.flatten.length ∧ rd a.flatten (p : Int) = rd (rd_L3 a (i : Int)) (q : Int) := by
  induction a with
  | nil => intro i q h; simp at h
  | cons s t ih =>
    intro i q hi hq
    cases i with
    | zero =>
      have e : rd_L3 (s :: t) ((0 : Nat) : Int) = s := rfl
      rw [e] at hq ⊢
      refine ⟨q, by simp [sumI], ?_, ?_⟩
      · rw [List.flatten_cons, List.length_append]; omega
      · rw [List.flatten_cons]; exact rd_left hq
    | succ i =>
      have e : rd_L3 (s :: t) ((i + 1 : Nat) : Int) = rd_L3 t (i : Int) := rfl
      rw [e] at hq ⊢
      obtain ⟨p, e1, e2, e3⟩ := ih i q (by simpa using hi) hq
      refine ⟨s.length + p, ?_, ?_, ?_⟩
      · show ((s.length + p : Nat) : Int) = q + sumI (((s.length : Int) :: lens t).take (i + 1))
        rw [List.take_succ_cons, sumI]; omega
      · rw [List.flatten_cons, List.length_append]; omega
      · rw [List.flatten_cons, rd_app e2, e3]
theorem back_l0 (a c : List (List Int)) (b : List Int) (i q : Nat) (p : Nat) (x : Int) (hx : 0 ≤ x ∧ x ≤ 18446744073709551615) (hp : 8 * p + 8 ≤ b.length) (hbl : b.length ≤ 1000000) (hb : ∀ j : Nat, j < 8 → rd b ((8 * p + j : Nat) : Int) = x / 256 ^ j % 256) (k0 : Nat)
    (hend : ∀ k, k0 ≤ k → scullerlaw07_ArenaBack.l0 (k + 1) a b c 0 (i : Int) (q : Int) (p : Int) x (-1) = some true) : ∀ (j k : Nat), j ≤ 8 → j + k0 < k → scullerlaw07_ArenaBack.l0 k a b c 0 (i : Int) (q : Int) (p : Int) (x / 256 ^ j) ((j : Int) - 1) = some true := by
  intro j
  induction j with
  | zero =>
    intro k _ hk
    obtain ⟨k, rfl⟩ : ∃ q, k = q + 1 := ⟨k - 1, by omega⟩
    have := hend k (by omega)
    rw [Int.pow_zero, Int.ediv_one]
    exact this
  | succ j ih =>
    intro k hj hk
    obtain ⟨k, rfl⟩ : ∃ q, k = q + 1 := ⟨k - 1, by omega⟩
    have e : ((j + 1 : Nat) : Int) - 1 = (j : Int) := by omega
    have hpw : (0 : Int) < 256 ^ j := Int.pow_pos (by decide)
    have q0 : 0 ≤ x / 256 ^ j := Int.ediv_nonneg hx.1 (Int.le_of_lt hpw)
    have q1 : x / 256 ^ j ≤ x := Int.ediv_le_self _ hx.1
    have ep : wrap64 (wrap64 (8 * (p : Int)) + (j : Int)) = ((8 * p + j : Nat) : Int) := by rw [w64 (x := 8 * (p : Int)) (by omega) (by omega), w64 (by omega) (by omega)]; omega
    rw [e, scullerlaw07_ArenaBack.l0, if_pos (by omega), ep, if_pos (by omega), if_pos (by omega), hb j (by omega), div256, w64 (x := (j : Int) - 1) (by omega) (by omega)]
    have h2 := ih k (by omega) (by omega)
    generalize hq : x / 256 ^ j = y at q0 q1 h2 ⊢
    rw [u64id (x := 256 * (y / 256)) (by omega) (by omega), u64id (x := y % 256) (by omega) (by omega), u64id (by omega) (by omega), show 256 * (y / 256) + y % 256 = y by omega]
    exact h2
theorem ArenaBack : scullerlaw07_ArenaBack.Pure := by
  intro c n sg at_ hl hl2 hc hn hsg hat
  have hcb := Bytes.of_wf hc
  have hn := bounds_u8 hn
  have hsg := bounds_u8 hsg
  have hat := bounds_u8 hat
  obtain ⟨k, hk⟩ : ∃ k : Nat, 100000 < k := ⟨100001, by omega⟩
  refine ⟨k + 1, ?_⟩
  obtain ⟨a, ea, hA, hal⟩ := arena07 c n hn hcb (k + 1) (by omega)
  have hok := (hA.ain (by omega) (by omega)).ok (by omega) (by omega)
  have hf : fitsB (lens a) = true := hok.f
  obtain ⟨l1, l16, l40⟩ := hok.len
  have hwl := wbytes_length a.flatten
  have hlen : (lens a).length = a.length := List.length_map _
  have hs : I64s (lens a) := fun x hx => by have := fits_mem hf x hx; omega
  have hsame : ∀ k', 100 < k' → arena_Same.f k' a a = some true := fun k' hk' => by
    rw [same_eq a a (by omega) 13 (by omega) hA.l k' (by omega)]; simp
  have s0 := Int.emod_nonneg sg (show (a.length : Int) ≠ 0 by omega)
  have s1 := Int.emod_lt_of_pos sg (show (a.length : Int) > 0 by omega)
  obtain ⟨i, hi⟩ : ∃ i : Nat, sg % (a.length : Int) = (i : Int) := ⟨(sg % (a.length : Int)).toNat, by omega⟩
  have hil : i < a.length := by omega
  have hrd : rd (lens a) (i : Int) = ((rd_L3 a (i : Int)).length : Int) := by
    unfold rd rd_L3 lens
    rw [Int.toNat_natCast, List.getD_eq_getElem?_getD, List.getD_eq_getElem?_getD, List.getElem?_map, List.getElem?_eq_getElem hil]; rfl
  have hmem : rd_L3 a (i : Int) ∈ a := by
    unfold rd_L3
    rw [Int.toNat_natCast, List.getD_eq_getElem?_getD, List.getElem?_eq_getElem hil]; exact List.getElem_mem hil
  have h13 := hA.l _ hmem
  have hu := hok.u _ hmem
  unfold scullerlaw07_ArenaBack.f
  rw [ea, Option.bind_some, sizes_eq a (by omega) (k + 1) (by omega), Option.bind_some, abytes_eq (by omega), Option.bind_some, cut_eq _ _ (wbytes_bytes _) (by omega) (k + 1) (by omega), Option.bind_some, cut_back hok]
  dsimp only
  rw [if_neg (by omega), w64 (x := sg) (by omega) (by omega), tmodn hsg.1, hi, if_pos (by omega), if_pos (by omega)]
  by_cases hz : ((rd_L3 a (i : Int)).length : Int) = 0
  · have hw : withinB (lens a) (i : Int) 0 1 = false := decide_eq_false (by rw [hrd]; omega)
    have hp : placeI (lens a) (i : Int) 0 = -1 := by
      unfold placeI; rw [if_pos hf, hw]; rfl
    rw [if_pos hz, known07_eq (k + 1) (by omega), Option.bind_some, if_pos rfl, if_pos rfl, hsame (k + 1) (by omega), Option.bind_some, if_pos rfl, place_eq hs (by omega) (k + 1) (by omega), Option.bind_some, hp]
    rfl
  · have m0 := Int.emod_nonneg at_ hz
    have m1 := Int.emod_lt_of_pos at_ (show ((rd_L3 a (i : Int)).length : Int) > 0 by omega)
    obtain ⟨q, hq⟩ : ∃ q : Nat, at_ % ((rd_L3 a (i : Int)).length : Int) = (q : Int) := ⟨(at_ % ((rd_L3 a (i : Int)).length : Int)).toNat, by omega⟩
    have hw : withinB (lens a) (i : Int) (q : Int) 1 = true := decide_eq_true (by rw [hrd]; omega)
    obtain ⟨p, p1, p2, p3⟩ := flat_rd a i q hil (by omega)
    have hp : placeI (lens a) (i : Int) (q : Int) = (p : Int) := by
      unfold placeI; rw [if_pos hf, if_pos hw, Int.toNat_natCast, p1]
    have hx : 0 ≤ rd a.flatten (p : Int) ∧ rd a.flatten (p : Int) ≤ 18446744073709551615 := by
      rw [p3]; unfold rd
      rw [Int.toNat_natCast, List.getD_eq_getElem?_getD, List.getElem?_eq_getElem (show q < (rd_L3 a (i : Int)).length by omega)]
      exact hu _ (List.getElem_mem (show q < (rd_L3 a (i : Int)).length by omega))
    rw [if_neg hz, w64 (x := at_) (by omega) (by omega), tmodn hat.1, hq, place_eq hs (by omega) (k + 1) (by omega), Option.bind_some, hp, if_neg (by omega), w64 (x := 8 * (p : Int)) (by omega) (by omega), w64 (by omega) (by omega), decide_eq_false (by omega), scullerlaw07_ArenaBack.j0, if_neg (by simp)]
    have h8 : rd a.flatten (p : Int) / 256 ^ 8 = 0 := by
      rw [show (256 : Int) ^ 8 = 18446744073709551616 by decide]
      exact Int.ediv_eq_zero_of_lt hx.1 (by omega)
    have := back_l0 a a (wbytes a.flatten) i q p _ hx (by omega) (by omega) (fun j hj => wbytes_rd a.flatten p j p2 hj) 200 (fun k' hk' => by
      rw [scullerlaw07_ArenaBack.l0, if_neg (by omega), known07_eq k' (by omega), Option.bind_some, if_pos rfl, if_pos rfl, hsame k' (by omega), Option.bind_some, if_pos rfl, if_pos (by omega), if_pos (by omega), if_pos (by omega), if_pos (by omega), if_pos p3, awords_eq (by omega), Option.bind_some, w64 (by omega) (by omega), hwl]
      simp) 8 k (by omega) (by omega)
    rw [h8] at this
    exact this
end Go.Proofs.Ytcjicfpdmegckaa.Pure
