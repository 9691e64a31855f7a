/- TokenBits: a token with bits of more, or fewer, chunks than there are is none: for every session and choices. Conditions: none. -/
import Derived.Test.YtcjicfpdmegckaaQx17
import Derived.Test.YtcjicfpdmegckaaQQAre
import Derived.Test.YtcjicfpdmegckaaQQTok
namespace Go.Proofs.Ytcjicfpdmegckaa.Pure
open Go.RowKit Go.Proofs.Ytcjicfpdmegckaa.Q Go.Proofs.YtcjicfpdmegckaaW.PrintWords Go.Proofs.YtcjicfpdmegckaaW.PrintLast Go.Proofs.YtcjicfpdmegckaaW.PrintMore Go.Proofs.Ytcjicfpdmegckaa.Num Go.Proofs.Ytcjicfpdmegckaa.CrcN

theorem bits_end {x : Int} {ss : List Int} {y : Int} {kn kn' : List Int} (ht : TokOK ss kn) (hb : Bytes kn) (h : ¬ TokOK ss kn') (hb' : Bytes kn') (hl : kn'.length ≤ 1000) (k : Nat) (hk : 50 < k) :
    scullerlaw14_TokenBits.j0 k x ss y kn x ss y kn' = some true := by
  obtain ⟨k, rfl⟩ : ∃ q, k = q + 1 := ⟨k - 1, by omega⟩
  have hc5 := chunksN_le ss
  have hkl := ht.2.1
  obtain ⟨r1, e1, h1⟩ := tokRight_eq x ss y kn hb (by omega) k (by omega)
  obtain ⟨r2, e2, h2⟩ := tokRight_eq x ss y kn' hb' (by omega) k (by omega)
  obtain rfl : r1 = true := h1.2 ht
  obtain rfl : r2 = false := by
    cases r2 with
    | false => rfl
    | true => exact absurd (h2.1 rfl) h
  rw [scullerlaw14_TokenBits.j0, enc_no h hb' (by omega) k (by omega), Option.bind_some]
  dsimp only
  rw [known_eq k (by omega), Option.bind_some, if_pos rfl, e1, Option.bind_some, if_pos rfl, e2, Option.bind_some, if_neg (by simp)]
  rfl
theorem TokenBits : scullerlaw14_TokenBits.Pure := by
  intro x c n m a hx hl hl2 hw hn hm ha
  have hcb := Bytes.of_wf hw
  have hx := bounds_u64 hx
  have hn := bounds_u8 hn
  have hm := bounds_u8 hm
  have ha := bounds_u8 ha
  obtain ⟨k, hk⟩ : ∃ k, c.length + 500000 < k := ⟨_, Nat.lt_succ_self _⟩
  refine ⟨k, ?_⟩
  obtain ⟨ss, y, kn, e1, ht, hb, hy⟩ := tokG x hx c hcb (by omega) n m hn hm k (by omega)
  have hc5 := chunksN_le ss
  have hc1 := chunksN_pos ht.1
  have hkl := ht.2.1
  unfold scullerlaw14_TokenBits.f
  rw [e1, Option.bind_some]
  dsimp only
  rw [rchunks_eq x ss y k (by omega), Option.bind_some, tmodn ha.1]
  by_cases a0 : a % 3 = 0
  · have e8 : wrap64 (wrap64 (8 * (kn.length : Int)) + 8) = ((8 * kn.length + 8 : Nat) : Int) := by rw [w64 (x := 8 * (kn.length : Int)) (by omega) (by omega), w64 (by omega) (by omega)]; omega
    obtain ⟨q, hq, hq2, _, hmk⟩ := make_any ((8 * kn.length + 8 : Nat) : Int)
    have hqe : q = 8 * kn.length + 8 := by
      have := clamp_self (n := 8 * kn.length + 8) (by omega)
      rw [this] at hq2; omega
    rw [if_pos a0, e8, hmk k (by omega), Option.bind_some]
    refine bits_end ht hb (fun h => ?_) (Bytes.zeros _) (by rw [List.length_replicate]; omega) k (by omega)
    have := h.2.1
    rw [List.length_replicate] at this
    omega
  · rw [if_neg a0]
    by_cases a1 : a % 3 = 1
    · have e1' : wrap64 ((kn.length : Int) - 1) = ((kn.length - 1 : Nat) : Int) := by rw [w64 (by omega) (by omega)]; omega
      rw [if_pos a1, e1', if_pos (by omega), if_pos (by omega), Int.toNat_natCast]
      refine bits_end ht hb (fun h => ?_) (hb.take _) (by rw [List.length_take]; omega) k (by omega)
      have := h.2.1
      rw [List.length_take] at this
      omega
    · rw [if_neg a1, tmodn (by omega)]
      by_cases a2 : (chunksN ss : Int) % 8 = 0
      · rw [if_pos a2, known_eq k (by omega)]; rfl
      · rw [if_neg a2, refset_nat hb (by omega) (by omega) k (by omega), Option.bind_some]
        refine bits_end ht hb (fun h => ?_) (setB_bytes hb _) (by rw [setB_length]; omega) k (by omega)
        have := h.2.2 (chunksN ss) (Nat.le_refl _)
        rw [B_set] at this
        have h8 : chunksN ss < 8 * kn.length := by omega
        rw [decide_eq_true ⟨rfl, h8⟩, Bool.or_true] at this
        cases this
end Go.Proofs.Ytcjicfpdmegckaa.Pure
