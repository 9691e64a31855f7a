/- ArenaPlaces: Fits, Within and Place of any numbers, and of choices, are what the chapter says: for all of them. Conditions: none. -/
import Derived.Test.YtcjicfpdmegckaaAx7
import Derived.Test.YtcjicfpdmegckaaAx6
import Derived.Test.YtcjicfpdmegckaaAABB
namespace Go.Proofs.Ytcjicfpdmegckaa.Pure
open Go.RowKit Go.Proofs.Ytcjicfpdmegckaa.A Go.Proofs.YtcjicfpdmegckaaW.PrintWords Go.Proofs.YtcjicfpdmegckaaW.PrintLast Go.Proofs.YtcjicfpdmegckaaW.PrintMore Go.Proofs.Ytcjicfpdmegckaa.Num Go.Proofs.Ytcjicfpdmegckaa.CrcN

theorem places_true {s : List Int} (hs : I64s s) {seg at_ n : Int} (ha : -9223372036854775808 ≤ at_ ∧ at_ ≤ 9223372036854775807) (hn : -9223372036854775808 ≤ n ∧ n ≤ 9223372036854775807) (k : Nat) (hk : 40 < k) : scullerlaw07_places.f k s seg at_ n = some true := by
  unfold scullerlaw07_places.f
  rw [fits_eq s k (by omega), Option.bind_some, rfits_eq s k (by omega), Option.bind_some, if_pos (by simp), within_eq hs ha hn, Option.bind_some, rwithin_eq hs, Option.bind_some, if_pos (by simp), place_eq hs ha k (by omega), Option.bind_some, rplace_eq hs k (by omega), Option.bind_some]
  simp
theorem w64_bd (x : Int) : -9223372036854775808 ≤ wrap64 x ∧ wrap64 x ≤ 9223372036854775807 := by unfold wrap64; omega
theorem places_j2 {s l : List Int} (hs : I64s s) (hl : I64s l) {seg at_ n c : Int} (ha : -9223372036854775808 ≤ at_ ∧ at_ ≤ 9223372036854775807) (hn : -9223372036854775808 ≤ n ∧ n ≤ 9223372036854775807) (k : Nat) (hk : 50 < k) : scullerlaw07_ArenaPlaces.j2 k s seg at_ n c l = some true := by
  obtain ⟨k, rfl⟩ : ∃ j, k = j + 1 := ⟨k - 1, by omega⟩
  rw [scullerlaw07_ArenaPlaces.j2, places_true hs ha hn k (by omega), Option.bind_some, if_pos rfl, places_true hl ha hn k (by omega), Option.bind_some, if_pos rfl, places_true hl (w64_bd _) (by omega) k (by omega), Option.bind_some, if_pos rfl, places_true hs (by omega) (by omega) k (by omega), Option.bind_some]
theorem places_l0 {s : List Int} (hs : I64s s) {seg at_ n c : Int} (cs : List Int) (ha : -9223372036854775808 ≤ at_ ∧ at_ ≤ 9223372036854775807) (hn : -9223372036854775808 ≤ n ∧ n ≤ 9223372036854775807) : ∀ (d k i : Nat) (l : List Int), i + d = 18 → l.length = i → I64s l → d + 60 < k →
    scullerlaw07_ArenaPlaces.l0 k s seg at_ n cs c l (i : Int) = some true := by
  intro d
  induction d with
  | zero =>
    intro k i l hi _ hl hk
    obtain ⟨k, rfl⟩ : ∃ j, k = j + 1 := ⟨k - 1, by omega⟩
    rw [scullerlaw07_ArenaPlaces.l0]
    by_cases h : (i : Int) < (cs.length : Int)
    · rw [if_pos h, if_neg (by omega)]; exact places_j2 hs hl ha hn k (by omega)
    · rw [if_neg h]; exact places_j2 hs hl ha hn k (by omega)
  | succ d ih =>
    intro k i l hi hll hl hk
    obtain ⟨k, rfl⟩ : ∃ j, k = j + 1 := ⟨k - 1, by omega⟩
    rw [scullerlaw07_ArenaPlaces.l0]
    by_cases h : (i : Int) < (cs.length : Int)
    · rw [if_pos h, if_pos (by omega), if_pos (by omega), if_pos (by omega), w64 (x := (i : Int) + 1) (by omega) (by omega), show (i : Int) + 1 = ((i + 1 : Nat) : Int) by omega]
      refine ih k (i + 1) _ (by omega) (by rw [List.length_append, List.length_singleton]; omega) (fun x hx => ?_) (by omega)
      rcases List.mem_append.1 hx with hx | hx
      · exact hl x hx
      · rw [List.mem_singleton.1 hx]; exact w64_bd _
    · rw [if_neg h]; exact places_j2 hs hl ha hn k (by omega)
theorem ArenaPlaces : scullerlaw07_ArenaPlaces.Pure := by
  intro s seg at_ n cs c _ _ hs _ ha hn _ _ _ _
  have hs : I64s s := fun x hx => bounds_i64 (hs x hx)
  have ha := bounds_i64 ha
  have hn := bounds_i64 hn
  refine ⟨200, ?_⟩
  unfold scullerlaw07_ArenaPlaces.f
  by_cases h : (s.length : Int) > 40
  · rw [if_pos h, scullerlaw07_ArenaPlaces.j0, if_pos rfl, known07_eq 199 (by omega)]; rfl
  · rw [if_neg h, known07_eq 200 (by omega), Option.bind_some, scullerlaw07_ArenaPlaces.j0, if_neg (by simp)]
    exact places_l0 hs cs ha hn 18 199 0 [] (by omega) rfl (fun x hx => by cases hx) (by omega)
end Go.Proofs.Ytcjicfpdmegckaa.Pure
