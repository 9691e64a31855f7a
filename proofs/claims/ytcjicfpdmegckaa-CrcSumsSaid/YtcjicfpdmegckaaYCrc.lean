/- What crc.Sum, crc.Seal and crc.Right compute, in plain numbers: for every row of bytes. -/
import Derived.Test.YtcjicfpdmegckaaYx2
import Derived.Test.YtcjicfpdmegckaaYPut
import Derived.Test.YtcjicfpdmegckaaYCrcS
import Derived.Test.YtcjicfpdmegckaaYStr
import Derived.Test.YtcjicfpdmegckaaCrcN
import Derived.Laws.BitsAllLaws
namespace Go.Proofs.Ytcjicfpdmegckaa.Y
open Go.RowKit Go.Proofs.YtcjicfpdmegckaaW.PrintWords Go.Proofs.YtcjicfpdmegckaaW.PrintLast Go.Proofs.YtcjicfpdmegckaaW.PrintMore Go.Proofs.Ytcjicfpdmegckaa.Num Go.Proofs.Ytcjicfpdmegckaa.CrcN

theorem four_put (n : Nat) : putL (n : Int) 4 = ints (four n) := by
  simp [putL, ints, four]
theorem asked4 : asked 4 = 4 := by decide
theorem seal_eq (k : Nat) (hk : 8 < k) (l : List Int) (h : Bytes l) (hl : l.length < 140737488355320) : crc_Seal.f k l = some (l ++ ints (four (sumN (nats l)))) := by
  have hs := sumN_lt (nats l) (nats_lt h)
  unfold crc_Seal.f bytes_Clone.f
  rw [if_pos (by omega), sum_eq l h]
  simp only [Option.bind_some]
  rw [u64id (by omega) (by omega), put_eq k hk, asked4, four_put]
  simp only [Option.bind_some]
  rw [if_pos (by simp [ints, four]; omega)]
theorem equal_eq {a b : List Int} (ha : Bytes a) (hb : Bytes b) : bytes_Equal.f a b = some (decide (a = b)) := by
  unfold bytes_Equal.f
  rw [str_eq ha hb]

/-- bytes and four more are right just if these are the sum -/
theorem right_four (k : Nat) (hk : 8 < k) (l : List Int) (h : Bytes l) (hl : l.length < 140737488355320) (t : Nat) (ht : t < 4294967296) :
    crc_Right.f k (l ++ ints (four t)) = some (decide (sumN (nats l) = t)) := by
  have hb4 : Bytes (ints (four t)) := ints_bytes (by intro x hx; simp [four] at hx; omega)
  have hlen : ((l ++ ints (four t)).length : Int) - 4 = l.length := by simp [ints, four]
  have hs := sumN_lt (nats l) (nats_lt h)
  unfold crc_Right.f
  rw [hlen, w64 (by omega) (by omega), if_pos (by omega), if_pos (by omega), if_pos (by rw [List.length_append]; omega), Int.toNat_natCast, List.take_left, seal_eq k hk l h hl]
  simp only [Option.bind_some]
  rw [equal_eq (h.append (ints_bytes (by intro x hx; simp [four] at hx; omega))) (h.append hb4)]
  simp only [Option.bind_some]
  congr 1
  rw [decide_eq_decide, List.append_cancel_left_eq]
  constructor
  · intro e; exact four_inj hs ht (ints_inj e)
  · intro e; rw [e]
/-- bytes are right just if the state behind them is the one number -/
theorem right_eq (k : Nat) (hk : 8 < k) (l : List Int) (h : Bytes l) (hl : l.length < 140737488355320) :
    crc_Right.f k l = some (decide (4 ≤ l.length ∧ F top (nats l) = st 32 top)) := by
  by_cases h4 : 4 ≤ l.length
  · obtain ⟨a, q, rfl, hq⟩ : ∃ a q, l = a ++ q ∧ q.length = 4 := ⟨l.take (l.length - 4), l.drop (l.length - 4), by simp, by simp; omega⟩
    have ha : Bytes a := fun x hx => h x (List.mem_append_left _ hx)
    have hqb : Bytes q := fun x hx => h x (List.mem_append_right _ hx)
    match q, hq with
    | [q0, q1, q2, q3], _ =>
      have b0 := hqb q0 (by simp)
      have b1 := hqb q1 (by simp)
      have b2 := hqb q2 (by simp)
      have b3 := hqb q3 (by simp)
      obtain ⟨t, ht, e⟩ : ∃ t : Nat, t < 4294967296 ∧ [q0, q1, q2, q3] = ints (four t) := by
        refine ⟨q0.toNat + 256 * q1.toNat + 65536 * q2.toNat + 16777216 * q3.toNat, by omega, ?_⟩
        simp only [ints, four, List.map_cons, List.map_nil]
        congr 1
        · omega
        · congr 1
          · omega
          · congr 1
            · omega
            · congr 1
              omega
      rw [e] at h4 hl ⊢
      rw [right_four k hk a ha (by simp at hl; omega) t ht]
      congr 1
      rw [decide_eq_decide, nats_append, nats_ints, ← right_iff _ (nats_lt ha) t ht]
      exact ⟨fun x => ⟨h4, x⟩, fun x => x.2⟩
  · rw [decide_eq_false (fun x => h4 x.1)]
    unfold crc_Right.f
    rw [w64 (by omega) (by omega), if_neg (by omega)]
end Go.Proofs.Ytcjicfpdmegckaa.Y
