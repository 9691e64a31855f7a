/- ArenaWithin: words are within a segment just if each of them has a place: for all choices. Conditions: none. -/
import Derived.Test.YtcjicfpdmegckaaAx9
import Derived.Test.YtcjicfpdmegckaaAABB
import Derived.Test.YtcjicfpdmegckaaAAAre
namespace Go.Proofs.Ytcjicfpdmegckaa.Pure
open Go.RowKit Go.Proofs.Ytcjicfpdmegckaa.A Go.Proofs.YtcjicfpdmegckaaW.PrintWords Go.Proofs.YtcjicfpdmegckaaW.PrintLast Go.Proofs.YtcjicfpdmegckaaW.PrintMore Go.Proofs.Ytcjicfpdmegckaa.Num Go.Proofs.Ytcjicfpdmegckaa.CrcN

theorem sum_nn {s : List Int} (h0 : ∀ x ∈ s, 0 ≤ x) (i : Nat) : 0 ≤ sumI (s.take i) := (sum_take_le h0 i).1
theorem place_nn {s : List Int} (hf : fitsB s = true) {seg at_ : Int} : (placeI s seg at_ ≥ 0) ↔ withinB s seg at_ 1 = true := by
  obtain ⟨_, _, _, h0, _⟩ := (fitsB_iff s).1 hf
  unfold placeI
  rw [if_pos hf]
  by_cases hw : withinB s seg at_ 1 = true
  · have := of_decide_eq_true hw
    have := sum_nn h0 seg.toNat
    rw [if_pos hw]
    exact ⟨fun _ => hw, fun _ => by omega⟩
  · rw [if_neg hw]
    exact ⟨fun h => by omega, fun h => absurd h hw⟩
theorem within_l0 {s : List Int} (hs : I64s s) (hf : fitsB s = true) {x2 at_ many : Int} (h2 : 0 ≤ x2 ∧ x2 ≤ 255) (ha : -128 ≤ at_ ∧ at_ ≤ 127) (hm : -128 ≤ many ∧ many ≤ 127) (is : Bool) : ∀ (d k i : Nat) (all : Bool), (many ≤ i ∧ d = 0 ∨ (i + d : Int) = many) → i ≤ 127 → d + 60 < k →
    (is = (all && (List.range d).all fun j => withinB s (x2 % 6) (at_ + i + j) 1)) → scullerlaw07_ArenaWithin.l0 k x2 at_ many s is all (i : Int) = some true := by
  have m0 := Int.emod_nonneg x2 (show (6 : Int) ≠ 0 by omega)
  have m1 := Int.emod_lt_of_pos x2 (show (6 : Int) > 0 by omega)
  intro d
  induction d with
  | zero =>
    intro k i all hi _ hk he
    obtain ⟨k, rfl⟩ : ∃ j, k = j + 1 := ⟨k - 1, by omega⟩
    rw [scullerlaw07_ArenaWithin.l0, w64 (x := many) (by omega) (by omega), if_neg (by omega), known07_eq k (by omega), Option.bind_some, if_pos rfl, he]
    simp
  | succ d ih =>
    intro k i all hi hi2 hk he
    obtain ⟨k, rfl⟩ : ∃ j, k = j + 1 := ⟨k - 1, by omega⟩
    have e1 : wrap64 ((i : Int) + 1) = ((i + 1 : Nat) : Int) := by rw [w64 (by omega) (by omega)]; omega
    have hsplit : ((List.range (d + 1)).all fun j => withinB s (x2 % 6) (at_ + i + j) 1) = (withinB s (x2 % 6) (at_ + i) 1 && (List.range d).all fun j => withinB s (x2 % 6) (at_ + (i + 1 : Nat) + j) 1) := by
      rw [List.range_succ_eq_map, List.all_cons, List.all_map]
      congr 1
      · simp
      · apply congrArg (fun p => (List.range d).all p)
        funext j
        simp only [Function.comp]
        congr 1
        omega
    rw [hsplit] at he
    rw [scullerlaw07_ArenaWithin.l0, w64 (x := many) (by omega) (by omega), if_pos (by omega), e1]
    cases all with
    | true =>
      rw [if_pos rfl, tmodn h2.1, w64 (x := x2 % 6) (by omega) (by omega), w64 (x := at_) (by omega) (by omega), w64 (x := at_ + (i : Int)) (by omega) (by omega), place_eq hs (by omega) k (by omega), Option.bind_some]
      refine ih k (i + 1) _ (by omega) (by omega) (by omega) ?_
      rw [he, Bool.true_and]
      congr 1
      rw [Bool.eq_iff_iff, decide_eq_true_iff]
      exact (place_nn hf).symm
    | false =>
      rw [if_neg (by simp)]
      refine ih k (i + 1) _ (by omega) (by omega) (by omega) ?_
      rw [he]; simp
theorem ArenaWithin : scullerlaw07_ArenaWithin.Pure := by
  intro c n x2 at_ many hl hl2 hc hn h2 ha hm
  have hcb := Bytes.of_wf hc
  have hn := bounds_u8 hn
  have h2 := bounds_u8 h2
  have ha := bounds_i8 ha
  have hm := bounds_i8 hm
  obtain ⟨k, hk⟩ : ∃ k : Nat, 1000 < k := ⟨1001, by omega⟩
  refine ⟨k + 1, ?_⟩
  obtain ⟨a, ea, hA, hal⟩ := arena07 c n hn hcb (k + 1) (by omega)
  have hok := (hA.ain (by omega) (by omega)).ok (by omega) (by omega)
  have hf : fitsB (lens a) = true := hok.f
  have e2 := rsizes_eq a (by omega) (k + 1) (by omega)
  have hlen : (lens a).length = a.length := List.length_map _
  have hfm := fits_mem hf
  have hs : I64s (lens a) := fun x hx => by have := hfm x hx; omega
  have m0 := Int.emod_nonneg x2 (show (6 : Int) ≠ 0 by omega)
  have m1 := Int.emod_lt_of_pos x2 (show (6 : Int) > 0 by omega)
  generalize hsd : lens a = s at *
  have fin : ∀ all : Bool, (withinB s (x2 % 6) at_ many = (all && (List.range many.toNat).all fun j => withinB s (x2 % 6) (at_ + (0 : Nat) + j) 1)) → scullerlaw07_ArenaWithin.j0 (k + 1) x2 at_ many s (withinB s (x2 % 6) at_ many) all = some true := by
    intro all he
    rw [scullerlaw07_ArenaWithin.j0]
    exact within_l0 hs hf h2 ha hm _ many.toNat k 0 all (by omega) (by omega) (by omega) he
  unfold scullerlaw07_ArenaWithin.f
  rw [ea, Option.bind_some, e2, Option.bind_some, tmodn h2.1, w64 (x := x2 % 6) (by omega) (by omega), w64 (x := at_) (by omega) (by omega), w64 (x := many) (by omega) (by omega), within_eq hs (by omega) (by omega), Option.bind_some]
  have no : withinB s (x2 % 6) at_ many = false → ∀ b, b = false → scullerlaw07_ArenaWithin.j0 (k + 1) x2 at_ many s (withinB s (x2 % 6) at_ many) b = some true := by
    rintro h b rfl
    exact fin false (by rw [h]; rfl)
  by_cases c1 : x2 % 6 < (s.length : Int)
  · rw [if_pos c1]
    by_cases c2 : many ≥ 0
    · rw [if_pos c2]
      by_cases c3 : at_ ≥ 0
      · have em : mn (x2 % 6) (wrap64 ((s.length : Int) - 1)) = x2 % 6 := by
          rw [w64 (x := (s.length : Int) - 1) (by omega) (by omega)]; unfold mn; split <;> omega
        rw [if_pos c3, em, if_pos (by omega), if_pos c1]
        refine fin _ ?_
        rw [Bool.eq_iff_iff]
        unfold withinB
        simp only [Bool.and_eq_true, decide_eq_true_eq, List.all_eq_true, List.mem_range]
        constructor
        · intro h
          exact ⟨by omega, fun j hj => by omega⟩
        · rintro ⟨h, hall⟩
          by_cases hz : many = 0
          · omega
          · have := hall (many.toNat - 1) (by omega)
            omega
      · rw [if_neg c3]; exact no (decide_eq_false (by omega)) _ rfl
    · rw [if_neg c2]; exact no (decide_eq_false (by omega)) _ rfl
  · rw [if_neg c1]; exact no (decide_eq_false (by omega)) _ rfl
end Go.Proofs.Ytcjicfpdmegckaa.Pure
