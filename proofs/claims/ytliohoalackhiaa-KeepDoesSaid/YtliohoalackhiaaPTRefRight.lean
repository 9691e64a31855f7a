/- What the document's Right of a token computes. Conditions: those in each theorem. -/
import Derived.Test.YtliohoalackhiaaPTx11
import Derived.Test.YtliohoalackhiaaPTx10
import Derived.Test.YtliohoalackhiaaPTBitsK
import Derived.Test.YtliohoalackhiaaPTTTok
import Derived.Test.YtliohoalackhiaaPTTAre
namespace Go.Proofs.Ytliohoalackhiaa.T
set_option linter.unusedVariables false
open Go.RowKit Go.Proofs.YtliohoalackhiaaW.PrintWords Go.Proofs.YtliohoalackhiaaW.PrintLast Go.Proofs.YtliohoalackhiaaW.PrintMore Go.Proofs.Ytliohoalackhiaa.Num Go.Proofs.Ytliohoalackhiaa.CrcN
theorem refright_loop {l : List Int} (hb : Bytes l) (hl : l.length < 100000) : ∀ (d k i : Nat), 8 * l.length ≤ i + d → i ≤ 8 * l.length + 65536 → d + 10 < k → ∃ r, scullerref03_Right.l0 k l (i : Int) = some r ∧ (r = true ↔ ∀ j, i ≤ j → B l j = false) := by
  intro d
  induction d with
  | zero =>
    intro k i hi hi2 hk
    obtain ⟨k, rfl⟩ : ∃ j, k = j + 1 := ⟨k - 1, by omega⟩
    rw [scullerref03_Right.l0, w64 (by omega) (by omega), if_neg (by omega)]
    exact ⟨_, rfl, fun _ j hj => B_out (by omega), fun _ => rfl⟩
  | succ d ih =>
    intro k i hi hi2 hk
    obtain ⟨k, rfl⟩ : ∃ j, k = j + 1 := ⟨k - 1, by omega⟩
    rw [scullerref03_Right.l0, w64 (x := 8 * (l.length : Int)) (by omega) (by omega)]
    by_cases h : (i : Int) < 8 * (l.length : Int)
    · rw [if_pos h, refget_nat hb (by omega) k (by omega), Option.bind_some]
      cases hB : B l i with
      | true =>
        rw [if_pos rfl]
        exact ⟨_, rfl, fun h => (by cases h), fun h => by rw [h i (Nat.le_refl _)] at hB; cases hB⟩
      | false =>
        rw [if_neg (by simp), w64 (by omega) (by omega)]
        obtain ⟨r, e, hr⟩ := ih k (i + 1) (by omega) (by omega) (by omega)
        refine ⟨r, e, hr.trans ⟨fun h j hj => ?_, fun h j hj => h j (by omega)⟩⟩
        by_cases e : j = i
        · subst e; exact hB
        · exact h j (by omega)
    · rw [if_neg h]
      exact ⟨_, rfl, fun _ j hj => B_out (by omega), fun _ => rfl⟩
theorem refright_nat {l : List Int} (hb : Bytes l) {n : Nat} (hn : n ≤ 65536) (k : Nat) (hk : 8 * l.length + 20 < k) : ∃ r, scullerref03_Right.f k l (n : Int) = some r ∧ (r = true ↔ l.length = (n + 7) / 8 ∧ ∀ i, n ≤ i → B l i = false) := by
  obtain ⟨n', hn', e1, e2, e3⟩ := make_any (n : Int)
  rw [clamp_self hn] at e1
  obtain rfl : n = n' := by omega
  unfold scullerref03_Right.f
  rw [if_neg (by omega), if_neg (by omega), e3 k (by omega), Option.bind_some, List.length_replicate]
  obtain ⟨k, rfl⟩ : ∃ j, k = j + 1 := ⟨k - 1, by omega⟩
  rw [scullerref03_Right.j0]
  by_cases hq : l.length = (n + 7) / 8
  · rw [if_neg (by rw [← hq]; simp)]
    obtain ⟨r2, f2, hr2⟩ := refright_loop hb (by omega) (8 * l.length) k n (by omega) (by omega) (by omega)
    exact ⟨r2, f2, hr2.trans ⟨fun h => ⟨hq, h⟩, fun h => h.2⟩⟩
  · rw [if_pos (by simp; omega)]
    exact ⟨false, rfl, ⟨fun h => (by cases h), fun h => absurd h.1 hq⟩⟩
theorem rtokRight_eq (x : Int) (ss : List Int) (y : Int) (kn : List Int) (hb : Bytes kn) (k : Nat) (hk : 8 * kn.length + 30 < k) : ∃ r, scullerref14_Right.f k x ss y kn = some r ∧ (r = true ↔ TokOK ss kn) := by
  unfold scullerref14_Right.f scullerref12_Right.f
  rw [rfits_eq ss k (by omega), Option.bind_some, Option.bind_some]
  by_cases h : fitsB ss = true
  · rw [if_pos h, rchunks_eq x ss y k (by omega), Option.bind_some]
    obtain ⟨r, e, hr⟩ := refright_nat hb (n := chunksN ss) (by have := chunksN_le ss; omega) k (by omega)
    exact ⟨r, by rw [e]; rfl, hr.trans ⟨fun q => ⟨h, q⟩, fun q => q.2⟩⟩
  · rw [if_neg h]
    exact ⟨false, rfl, ⟨fun q => (by cases q), fun q => absurd q.1 h⟩⟩
end Go.Proofs.Ytliohoalackhiaa.T
