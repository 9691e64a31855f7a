/- CrcAlike: for every two rows of bytes (their first n, n at most 300), the sums of two rows as long differ as that of their difference does from that of noughts. Conditions: none. -/
import Derived.Test.YtbaokbfmancjlaaBx5
import Derived.Test.YtbaokbfmancjlaaBCrc
namespace Go.Proofs.Ytbaokbfmancjlaa.Pure
open Go.RowKit Go.Proofs.Ytbaokbfmancjlaa.B Go.Proofs.YtbaokbfmancjlaaW.PrintWords Go.Proofs.YtbaokbfmancjlaaW.PrintLast Go.Proofs.YtbaokbfmancjlaaW.PrintMore Go.Proofs.Ytbaokbfmancjlaa.Num Go.Proofs.Ytbaokbfmancjlaa.CrcN

theorem xor_self_left (a b c : Nat) : (a ^^^ b) ^^^ (a ^^^ c) = b ^^^ c := by
  rw [Nat.xor_comm a b, Nat.xor_assoc, ← Nat.xor_assoc a, Nat.xor_self, Nat.zero_xor]
theorem rd_nat {l : List Int} (h : Bytes l) {i : Nat} (hi : i < l.length) : rd l (i : Int) = ((nats l)[i]'(by rw [nats_length]; exact hi) : Nat) := by
  have := h _ (List.getElem_mem hi)
  unfold rd
  rw [Int.toNat_natCast, List.getD_eq_getElem?_getD, List.getElem?_eq_getElem hi]
  simp [nats]
  omega
theorem set_end (xs : List Nat) (i d : Nat) (v : Nat) (hi : xs.length = i) : (ints xs ++ List.replicate (d + 1) 0).set i (v : Int) = ints (xs ++ [v]) ++ List.replicate d 0 := by
  subst hi
  rw [List.replicate_succ, ints_append]
  have := set_mid (ints xs) (List.replicate d 0) 0 (v : Int)
  rw [ints_length] at this
  rw [this]
  simp [ints]
theorem alike_loop (a b : List Int) (ha : Bytes a) (hb : Bytes b) (n : Nat) (hn : n ≤ 300) (na : n ≤ a.length) (nb : n ≤ b.length) (d : Nat) : ∀ (k i : Nat), i + d = n → d + 10 < k →
    scullerlaw02_CrcAlike.l0 k a b (n : Int) (ints (((nats a).zipWith (· ^^^ ·) (nats b)).take i) ++ List.replicate d 0) (i : Int) = some true := by
  have hz : ((nats a).zipWith (· ^^^ ·) (nats b)).length = min a.length b.length := by simp [nats]
  induction d with
  | zero =>
    intro k i hi hk
    obtain ⟨k, rfl⟩ : ∃ j, k = j + 1 := ⟨k - 1, by omega⟩
    obtain rfl : i = n := by omega
    have hkn : scullerlaw02_known.f k = some true := by unfold scullerlaw02_known.f; rw [if_neg (by omega)]
    have hx : Bytes (ints (((nats a).zipWith (· ^^^ ·) (nats b)).take i)) := ints_bytes (fun x hx => by
      obtain ⟨j, hj, rfl⟩ := List.mem_iff_getElem.1 (List.mem_of_mem_take hx)
      simp only [List.getElem_zipWith]
      exact Nat.xor_lt_two_pow (n := 8) (nats_lt ha _ (List.getElem_mem _)) (nats_lt hb _ (List.getElem_mem _)))
    have hzr : Bytes (List.replicate i (0 : Int)) := fun y hy => by have := List.eq_of_mem_replicate hy; omega
    simp only [scullerlaw02_CrcAlike.l0]
    rw [if_neg (by omega), hkn]
    simp only [Option.bind_some, if_true, List.replicate_zero, List.append_nil, Int.toNat_natCast]
    rw [if_pos (by omega), if_pos (by omega), sum_eq _ (ha.take i)]
    simp only [Option.bind_some]
    rw [if_pos (by omega), sum_eq _ (hb.take i)]
    simp only [Option.bind_some]
    rw [sum_eq _ hx]
    simp only [Option.bind_some]
    rw [if_pos (by omega), sum_eq _ hzr]
    simp only [Option.bind_some]
    rw [u32_xor_nat _ _ (sumN_lt _ (nats_lt (ha.take i))) (sumN_lt _ (nats_lt (hb.take i))), u32_xor_nat _ _ (sumN_lt _ (nats_lt hx)) (sumN_lt _ (nats_lt hzr))]
    have e : sumN (nats (a.take i)) ^^^ sumN (nats (b.take i)) = sumN (nats (ints (((nats a).zipWith (· ^^^ ·) (nats b)).take i))) ^^^ sumN (nats (List.replicate i (0 : Int))) := by
      unfold sumN
      rw [xor_self_left, xor_self_left, nats_ints]
      have hr : nats (List.replicate i (0 : Int)) = List.replicate (nats (a.take i)).length 0 := by
        simp [nats]; omega
      rw [hr]
      refine F_alike (nats (a.take i)) (nats (b.take i)) _ top top top top ?_ ?_ rfl
      · simp [nats]; omega
      · simp only [nats, List.map_take]
        exact List.take_zipWith
    rw [e]
    simp
  | succ d ih =>
    intro k i hi hk
    obtain ⟨k, rfl⟩ : ∃ j, k = j + 1 := ⟨k - 1, by omega⟩
    simp only [scullerlaw02_CrcAlike.l0]
    have hia : i < a.length := by omega
    have hib : i < b.length := by omega
    have hlen : (ints (((nats a).zipWith (· ^^^ ·) (nats b)).take i) ++ List.replicate (d + 1) 0).length = n := by
      rw [List.length_append, ints_length, List.length_take, hz, List.length_replicate]; omega
    rw [if_pos (by omega), if_pos (by omega), if_pos (by omega), if_pos (by omega), if_pos (by rw [hlen]; omega), w64 (x := (i : Int) + 1) (by omega) (by omega)]
    rw [rd_nat ha hia, rd_nat hb hib, u8_xor_nat _ _ (nats_lt ha _ (List.getElem_mem _)) (nats_lt hb _ (List.getElem_mem _)), Int.toNat_natCast]
    rw [set_end _ i d _ (by rw [List.length_take, hz]; omega)]
    have e : ((nats a).zipWith (· ^^^ ·) (nats b)).take i ++ [(nats a)[i]'(by rw [nats_length]; exact hia) ^^^ (nats b)[i]'(by rw [nats_length]; exact hib)] = ((nats a).zipWith (· ^^^ ·) (nats b)).take (i + 1) := by
      rw [List.take_succ_eq_append_getElem (by rw [hz]; omega), List.getElem_zipWith]
    rw [e]
    exact ih k (i + 1) (by omega) (by omega)
theorem CrcAlike : scullerlaw02_CrcAlike.Pure := by
  intro a b hla hla2 hwa hlb hlb2 hwb
  have ha := Bytes.of_wf hwa
  have hb := Bytes.of_wf hwb
  obtain ⟨n, hn⟩ : ∃ n : Nat, mn (mn (a.length : Int) (b.length : Int)) 300 = (n : Int) := ⟨(mn (mn (a.length : Int) (b.length : Int)) 300).toNat, by unfold mn; (repeat' split) <;> omega⟩
  have h : n ≤ 300 ∧ n ≤ a.length ∧ n ≤ b.length := by unfold mn at hn; (repeat' split at hn) <;> omega
  refine ⟨n + 11, ?_⟩
  unfold scullerlaw02_CrcAlike.f
  rw [hn, if_pos (by omega), if_pos (by omega), Int.toNat_natCast]
  have := alike_loop a b ha hb n h.1 h.2.1 h.2.2 n (n + 11) 0 (by omega) (by omega)
  simpa [ints] using this

end Go.Proofs.Ytbaokbfmancjlaa.Pure
