/- CrcBurst: for every row of bytes (of at most 300; else the law asks nothing more than its example), place and 32 bits: of what was sealed, with any of 32 bits in a row another one, the sum is not right. Conditions: none. -/
import Derived.Test.YtbaokbfmancjlaaBx4
import Derived.Test.YtbaokbfmancjlaaBCrc
namespace Go.Proofs.Ytbaokbfmancjlaa.Pure
open Go.RowKit Go.Proofs.Ytbaokbfmancjlaa.B Go.Proofs.YtbaokbfmancjlaaW.PrintWords Go.Proofs.YtbaokbfmancjlaaW.PrintLast Go.Proofs.YtbaokbfmancjlaaW.PrintMore Go.Proofs.Ytbaokbfmancjlaa.Num Go.Proofs.Ytbaokbfmancjlaa.CrcN

theorem pow2_le {a b : Nat} (h : a ≤ b) : 2 ^ a ≤ 2 ^ b := Nat.pow_le_pow_right (by omega) h
/-- how many of the bits lie in the row -/
def room (N p : Nat) : Nat := min 32 (N - p)
set_option maxHeartbeats 1000000 in
theorem burst_end (v : Nat) (hv : v < 4294967296) (L : List Int) (p : Nat) (hp : p < 8 * L.length) (hlen : L.length ≤ 304) (h4 : 4 ≤ L.length) (hF : F top (nats L) = st 32 top)
    (x : List Int) (hx : Bytes x) (hxl : x.length = L.length) (hS : F top (nats x) = F top (nats L) ^^^ st (8 * L.length - p) (v % 2 ^ room (8 * L.length) p)) (k : Nat) (hk : 10 < k) (c : Bool) (hc : c = false) :
    scullerlaw02_CrcBurst.j1 (k + 1) (v : Int) x (p : Int) (room (8 * L.length) p : Int) c = some true := by
  subst hc
  have hkn : scullerlaw02_known.f k = some true := by unfold scullerlaw02_known.f; rw [if_neg (by omega)]
  obtain ⟨m, hm⟩ : ∃ m, room (8 * L.length) p = m := ⟨_, rfl⟩
  have hm32 : m ≤ 32 ∧ m ≤ 8 * L.length - p ∧ (m = 32 ∨ m = 8 * L.length - p) := by unfold room at hm; omega
  rw [hm] at hS ⊢
  have hr : crc_Right.f k x = some (decide (v % 2 ^ m = 0)) := by
    rw [right_eq k (by omega) x hx (by omega)]
    congr 1
    rw [decide_eq_decide, hS, hF]
    have hlt : v % 2 ^ m < 4294967296 := Nat.lt_of_le_of_lt (Nat.mod_le _ _) hv
    constructor
    · rintro ⟨_, h⟩
      apply st_eq_zero (8 * L.length - p) hlt
      have : st 32 top ^^^ (st 32 top ^^^ st (8 * L.length - p) (v % 2 ^ m)) = st 32 top ^^^ st 32 top := by rw [h]
      rwa [← Nat.xor_assoc, Nat.xor_self, Nat.zero_xor] at this
    · intro h
      rw [h, st_zero, Nat.xor_zero]
      exact ⟨by omega, rfl⟩
  simp only [scullerlaw02_CrcBurst.j1, Bool.false_eq_true, if_false]
  rw [hkn, hr]
  simp only [Option.bind_some, if_true]
  have e8 : wrap64 (8 * (x.length : Int)) = ((8 * L.length : Nat) : Int) := by rw [hxl, w64 (by omega) (by omega)]; omega
  rw [e8, w64 (x := ((8 * L.length : Nat) : Int) - (p : Int)) (by omega) (by omega)]
  have hmn : mn (((8 * L.length : Nat) : Int) - (p : Int)) 32 = (m : Int) := by unfold mn; split <;> omega
  rw [hmn]
  by_cases hz : v = 0
  · subst hz
    simp
  · rw [if_neg (show ¬ ((v : Int) = 0) by omega)]
    by_cases h32 : m = 32
    · subst h32
      rw [if_neg (by omega)]
      have : v % 2 ^ 32 = v := Nat.mod_eq_of_lt hv
      rw [this, decide_eq_false hz]
      rfl
    · rw [if_pos (by omega), u64id (by omega) (by omega), if_pos (by omega)]
      have hpm : (2 : Int) ^ m ≤ 2 ^ 31 := pow_le_pow (by omega)
      have hpp := two_pos m
      have s1 : shl .u32 1 (m : Int) = 2 ^ m := by
        unfold shl
        have : min ((m : Int)).toNat IntKind.u32.bits = m := by simp [IntKind.bits]; omega
        rw [this, Int.one_mul]
        simp only [IntKind.wrap, IntKind.bits, IntKind.signed]
        simp
        omega
      rw [s1, if_neg (by omega), tmodn (by omega)]
      have e2 : (v : Int) % 2 ^ m = ((v % 2 ^ m : Nat) : Int) := by simp
      rw [e2]
      generalize v % 2 ^ m = q
      by_cases h0 : q = 0
      · rw [h0]; rfl
      · rw [decide_eq_false h0, beq_eq_false_iff_ne.2 (show ¬ ((q : Int) = 0) by omega)]
        rfl
set_option maxHeartbeats 2000000 in
theorem burst_loop (v : Nat) (hv : v < 4294967296) (L : List Int) (p : Nat) (hp : p < 8 * L.length) (hlen : L.length ≤ 304) (h4 : 4 ≤ L.length) (hF : F top (nats L) = st 32 top) (d : Nat) :
    ∀ (k i : Nat) (x : List Int), Bytes x → x.length = L.length → i + d = room (8 * L.length) p → 2 * d + 13 < k → F top (nats x) = F top (nats L) ^^^ st (8 * L.length - p) (v % 2 ^ i) →
      scullerlaw02_CrcBurst.l0 k (v : Int) x (p : Int) (i : Int) = some true := by
  have HF := Aside0.mk hF
  clear hF
  induction d with
  | zero =>
    intro k i x hx hxl hi hk hS
    have HS := Aside0.mk hS
    clear hS
    obtain ⟨k, rfl⟩ : ∃ j, k = j + 1 + 1 := ⟨k - 2, by omega⟩
    obtain rfl : i = room (8 * L.length) p := by omega
    have e := burst_end v hv L p hp hlen h4 HF.out x hx hxl HS.out k (by omega)
    have e8 : wrap64 (8 * (x.length : Int)) = ((8 * L.length : Nat) : Int) := by rw [hxl, w64 (by omega) (by omega)]; omega
    obtain ⟨m, hm⟩ : ∃ m, room (8 * L.length) p = m := ⟨_, rfl⟩
    rw [hm] at e ⊢
    have hm32 : m ≤ 32 ∧ m ≤ 8 * L.length - p ∧ (m = 32 ∨ m = 8 * L.length - p) := by unfold room at hm; omega
    simp only [scullerlaw02_CrcBurst.l0]
    by_cases h : (m : Int) < 32
    · rw [if_pos h]
      refine e _ (decide_eq_false ?_)
      rw [e8, w64 (by omega) (by omega)]
      omega
    · rw [if_neg h]
      exact e _ rfl
  | succ d ih =>
    intro k i x hx hxl hi hk hS
    have HS := Aside0.mk hS
    clear hS
    obtain ⟨k, rfl⟩ : ∃ j, k = j + 1 + 1 := ⟨k - 2, by omega⟩
    have hi2 : i < 32 ∧ p + i < 8 * L.length := by unfold room at hi; omega
    obtain ⟨hi32, hpi⟩ := hi2
    have e8 : wrap64 (8 * (x.length : Int)) = ((8 * L.length : Nat) : Int) := by rw [hxl, w64 (by omega) (by omega)]; omega
    have epi : wrap64 ((p : Int) + (i : Int)) = ((p + i : Nat) : Int) := by rw [w64 (by omega) (by omega)]; omega
    simp only [scullerlaw02_CrcBurst.l0]
    rw [if_pos (show (i : Int) < 32 by omega), e8, epi, decide_eq_true (show ((p + i : Nat) : Int) < ((8 * L.length : Nat) : Int) by omega)]
    rw [scullerlaw02_CrcBurst.j1, if_pos rfl]
    rw [epi, u64id (x := (i : Int)) (by omega) (by omega), if_pos (by omega), w64 (x := (i : Int) + 1) (by omega) (by omega)]
    have s1 : shr .u32 (v : Int) (i : Int) = ((v / 2 ^ i : Nat) : Int) := by
      unfold shr
      have : min ((i : Int)).toNat IntKind.u32.bits = i := by simp [IntKind.bits]; omega
      rw [this]
      simp
    rw [s1, tmodn (Int.natCast_nonneg _)]
    have hstep := Aside0.mk (burst_step (N := 8 * L.length - p) (i := i) (v := v) (by omega))
    by_cases hb : v / 2 ^ i % 2 = 1
    · rw [if_pos (by omega), tdivn (by omega), show ((p + i : Nat) : Int) / 8 = (((p + i) / 8 : Nat) : Int) by omega, w64 (x := (((p + i) / 8 : Nat) : Int)) (by omega) (by omega)]
      rw [if_pos (by omega), if_pos (by omega), tmodn (by omega), show ((p + i : Nat) : Int) % 8 = (((p + i) % 8 : Nat) : Int) by omega, u64id (x := (((p + i) % 8 : Nat) : Int)) (by omega) (by omega), if_pos (by omega)]
      have hj : (p + i) / 8 < x.length := by omega
      have hjn : (p + i) / 8 < (nats x).length := by rw [nats_length]; exact hj
      have hq : 2 ^ ((p + i) % 8) < 256 := Nat.lt_of_le_of_lt (pow2_le (show (p + i) % 8 ≤ 7 by omega)) (by decide)
      have s2 : shl .u8 1 (((p + i) % 8 : Nat) : Int) = ((2 ^ ((p + i) % 8) : Nat) : Int) := by
        unfold shl
        have : min ((((p + i) % 8 : Nat) : Int)).toNat IntKind.u8.bits = (p + i) % 8 := by simp [IntKind.bits]; omega
        rw [this, Int.one_mul]
        simp only [IntKind.wrap, IntKind.bits, IntKind.signed]
        have : ((2 : Int) ^ ((p + i) % 8)) = ((2 ^ ((p + i) % 8) : Nat) : Int) := by simp
        rw [this]
        generalize 2 ^ ((p + i) % 8) = z at hq
        simp
        omega
      have hrd : rd x (((p + i) / 8 : Nat) : Int) = (((nats x)[(p + i) / 8]'hjn : Nat) : Int) := by
        have := hx _ (List.getElem_mem hj)
        unfold rd
        rw [Int.toNat_natCast, List.getD_eq_getElem?_getD, List.getElem?_eq_getElem hj]
        simp [nats]
        omega
      rw [s2, hrd, u8_xor_nat _ _ (nats_lt hx _ (List.getElem_mem _)) hq, Int.toNat_natCast]
      have hlt : (nats x)[(p + i) / 8]'hjn ^^^ 2 ^ ((p + i) % 8) < 256 := Nat.xor_lt_two_pow (n := 8) (nats_lt hx _ (List.getElem_mem _)) hq
      have hx2 : x.set ((p + i) / 8) (((nats x)[(p + i) / 8]'hjn ^^^ 2 ^ ((p + i) % 8) : Nat) : Int) = ints ((nats x).set ((p + i) / 8) ((nats x)[(p + i) / 8]'hjn ^^^ 2 ^ ((p + i) % 8))) := by
        unfold ints
        rw [List.map_set]
        congr 1
        exact (ints_nats hx).symm
      rw [hx2]
      refine ih (k + 1 - 1) (i + 1) _ (ints_bytes ?_) (by rw [ints_length, List.length_set, nats_length]; exact hxl) (by omega) (by omega) ?_
      · intro y hy
        rcases List.mem_or_eq_of_mem_set hy with h | h
        · exact nats_lt hx y h
        · rw [h]; exact hlt
      · rw [nats_ints, F_bit top (nats x) (p + i) (by rw [nats_length]; omega), HS.out, hstep.out, if_pos hb, nats_length, hxl, Nat.xor_assoc]
        rw [show 8 * L.length - (p + i) = 8 * L.length - p - i by omega]
    · rw [if_neg (by omega)]
      refine ih k (i + 1) x hx hxl (by omega) (by omega) ?_
      rw [HS.out, hstep.out, if_neg hb, Nat.xor_zero]
set_option maxHeartbeats 2000000 in
theorem CrcBurst : scullerlaw02_CrcBurst.Pure := by
  intro l a v hl hl2 hw ha hv
  obtain ⟨a0, a1⟩ := bounds_u16 ha
  obtain ⟨v0, v1⟩ := bounds_u32 hv
  have hb := Bytes.of_wf hw
  obtain ⟨v, rfl⟩ : ∃ n : Nat, v = (n : Int) := ⟨v.toNat, by omega⟩
  refine ⟨100, ?_⟩
  have hk : scullerlaw02_known.f 100 = some true := rfl
  unfold scullerlaw02_CrcBurst.f
  rw [hk]
  by_cases h : (l.length : Int) > 300
  · rw [if_pos h]; rfl
  · rw [if_neg h, seal_eq 100 (by omega) l hb (by omega)]
    simp only [Option.bind_some]
    have hs := sumN_lt (nats l) (nats_lt hb)
    have hF := (right_iff (nats l) (nats_lt hb) (sumN (nats l)) hs).1 rfl
    have hb4 : Bytes (ints (four (sumN (nats l)))) := ints_bytes (by intro x hx; simp [four] at hx; omega)
    obtain ⟨L, hL⟩ : ∃ L, l ++ ints (four (sumN (nats l))) = L := ⟨_, rfl⟩
    have hlen : L.length = l.length + 4 := by rw [← hL]; simp [ints, four]
    have hLb : Bytes L := by rw [← hL]; exact hb.append hb4
    have hLF : F top (nats L) = st 32 top := by rw [← hL, nats_append, nats_ints]; exact hF
    rw [hL]
    have e8 : wrap64 (8 * (L.length : Int)) = ((8 * L.length : Nat) : Int) := by rw [w64 (by omega) (by omega)]; omega
    rw [if_neg (by omega), e8, if_neg (by omega), w64 (x := a) (by omega) (by omega), tmodn a0]
    obtain ⟨p, hp⟩ : ∃ p : Nat, a % ((8 * L.length : Nat) : Int) = (p : Int) := ⟨(a % ((8 * L.length : Nat) : Int)).toNat, by have := Int.emod_nonneg a (show ((8 * L.length : Nat) : Int) ≠ 0 by omega); omega⟩
    have hp2 : p < 8 * L.length := by have := Int.emod_lt_of_pos a (show (0 : Int) < ((8 * L.length : Nat) : Int) by omega); omega
    rw [hp]
    have := burst_loop v (by omega) L p hp2 (by omega) (by omega) hLF (room (8 * L.length) p) 100 0 L hLb rfl (by omega) (by unfold room; omega) (by simp [Nat.mod_one, st_zero])
    simpa using this

end Go.Proofs.Ytbaokbfmancjlaa.Pure
