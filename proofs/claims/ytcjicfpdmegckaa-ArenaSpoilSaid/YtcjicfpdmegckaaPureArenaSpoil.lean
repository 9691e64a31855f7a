/- ArenaSpoil: what comes out, spoilt, changes nothing of what was handed in: for all choices. Conditions: none. -/
import Derived.Test.YtcjicfpdmegckaaAx19
import Derived.Test.YtcjicfpdmegckaaAABB
namespace Go.Proofs.Ytcjicfpdmegckaa.Pure
open Go.RowKit Go.Proofs.Ytcjicfpdmegckaa.A Go.Proofs.YtcjicfpdmegckaaW.PrintWords Go.Proofs.YtcjicfpdmegckaaW.PrintLast Go.Proofs.YtcjicfpdmegckaaW.PrintMore Go.Proofs.Ytcjicfpdmegckaa.Num Go.Proofs.Ytcjicfpdmegckaa.CrcN

theorem spoil_l0 {a : List (List Int)} (h : Aok a) : ∀ (d k i : Nat) (b : List Int), i + d = b.length → b.length ≤ 1000000 → d + 100 < k → scullerlaw07_ArenaSpoil.l0 k a (strOfNums (wbytes a.flatten)) b a 0 (i : Int) = some true := by
  obtain ⟨l1, l16, l40⟩ := h.len
  have hlen : (lens a).length = a.length := List.length_map _
  intro d
  induction d with
  | zero =>
    intro k i b hi hb hk
    obtain ⟨k, rfl⟩ : ∃ j, k = j + 1 := ⟨k - 1, by omega⟩
    rw [scullerlaw07_ArenaSpoil.l0, if_neg (by omega), sizes_eq a (by omega) k (by omega), Option.bind_some, if_neg (by omega), if_pos (by omega), abytes_eq (by omega), Option.bind_some, known07_eq k (by omega), Option.bind_some, if_pos rfl, if_pos rfl, if_pos rfl, Option.bind_some]
    simp
  | succ d ih =>
    intro k i b hi hb hk
    obtain ⟨k, rfl⟩ : ∃ j, k = j + 1 := ⟨k - 1, by omega⟩
    rw [scullerlaw07_ArenaSpoil.l0, if_pos (by omega), if_pos (by omega), w64 (x := (i : Int) + 1) (by omega) (by omega), show (i : Int) + 1 = ((i + 1 : Nat) : Int) by omega]
    exact ih k (i + 1) _ (by rw [List.length_set]; omega) (by rw [List.length_set]; omega) (by omega)
theorem ArenaSpoil : scullerlaw07_ArenaSpoil.Pure := by
  intro c n hl hl2 hc hn
  have hcb := Bytes.of_wf hc
  have hn := bounds_u8 hn
  obtain ⟨k, hk⟩ : ∃ k : Nat, 100000 < k := ⟨100001, by omega⟩
  refine ⟨k, ?_⟩
  obtain ⟨a, ea, hA, hal⟩ := arena07 c n hn hcb k (by omega)
  have hok := (hA.ain (by omega) (by omega)).ok (by omega) (by omega)
  obtain ⟨l1, l16, l40⟩ := hok.len
  have hwl := wbytes_length a.flatten
  unfold scullerlaw07_ArenaSpoil.f
  rw [ea, Option.bind_some, abytes_eq (by omega), Option.bind_some, Option.bind_some, sizes_eq a (by omega) k (by omega), Option.bind_some, cut_eq _ _ (wbytes_bytes _) (by omega) k (by omega), Option.bind_some, cut_back hok]
  exact spoil_l0 hok (wbytes a.flatten).length k 0 (wbytes a.flatten) (by omega) (by omega) (by omega)
end Go.Proofs.Ytcjicfpdmegckaa.Pure
