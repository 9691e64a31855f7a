/- What the document's Make, Count, First and Right of bits compute. Conditions: those in each theorem. -/
import Derived.Test.YtbaokbfmancjlaaCx6
import Derived.Test.YtbaokbfmancjlaaCx5
import Derived.Test.YtbaokbfmancjlaaCx5
import Derived.Test.YtbaokbfmancjlaaCBitsRefG
import Derived.Test.YtbaokbfmancjlaaCBitsC
import Derived.Test.YtbaokbfmancjlaaCBitsR
namespace Go.Proofs.Ytbaokbfmancjlaa.C
open Go.RowKit Go.Proofs.YtbaokbfmancjlaaW.PrintWords Go.Proofs.YtbaokbfmancjlaaW.PrintLast Go.Proofs.YtbaokbfmancjlaaW.PrintMore Go.Proofs.Ytbaokbfmancjlaa.Num

set_option linter.unusedVariables false
theorem clamp_any (a : Int) : ∃ n : Nat, n ≤ 65536 ∧ mx 0 (mn a 65536) = (n : Int) := by
  refine ⟨(mx 0 (mn a 65536)).toNat, ?_, ?_⟩ <;> (unfold mx mn; repeat' split) <;> omega
theorem clamp_self {n : Nat} (h : n ≤ 65536) : mx 0 (mn (n : Int) 65536) = (n : Int) := by unfold mx mn; repeat' split <;> omega
theorem refceil8 {n : Nat} (h : n ≤ 65536) (k : Nat) (hk : 0 < k) : scullerref01_Ceil.f k (n : Int) 8 = some (((n + 7) / 8 : Nat) : Int) := by
  obtain ⟨k, rfl⟩ : ∃ j, k = j + 1 := ⟨k - 1, by omega⟩
  unfold scullerref01_Ceil.f
  rw [if_neg (by omega), if_neg (by omega), if_neg (by omega), scullerref01_Ceil.j0, if_neg (by simp), if_neg (by omega), tdivn (by omega), w64 (x := (n : Int) / 8) (by omega) (by omega), w64 (x := (n : Int) / 8 * 8) (by omega) (by omega), w64 (x := (n : Int) / 8 + 1) (by omega) (by omega)]
  split <;> (congr 1; omega)
theorem make_any (a : Int) : ∃ n : Nat, n ≤ 65536 ∧ mx 0 (mn a 65536) = (n : Int) ∧ bits_Make.f a = some (List.replicate ((n + 7) / 8) 0) ∧ ∀ k, 0 < k → scullerref03_Make.f k a = some (List.replicate ((n + 7) / 8) 0) := by
  obtain ⟨n, hn, e⟩ := clamp_any a
  refine ⟨n, hn, e, ?_, fun k hk => ?_⟩
  · have := make_nat hn
    unfold bits_Make.f at this ⊢
    rw [clamp_self hn] at this
    rw [e]; exact this
  · unfold scullerref03_Make.f
    rw [e, refceil8 hn k hk, Option.bind_some, if_pos (by omega), if_pos (by omega), Int.toNat_natCast]
theorem refcount_loop {l : List Int} (hb : Bytes l) (hl : l.length < 100000) : ∀ (d k i : Nat), i + d = 8 * l.length → d + 10 < k → scullerref03_Count.l0 k l ((cb (B l) i : Nat) : Int) (i : Int) = some ((cb (B l) (8 * l.length) : Nat) : Int) := by
  intro d
  induction d with
  | zero =>
    intro k i hi hk
    obtain ⟨k, rfl⟩ : ∃ j, k = j + 1 := ⟨k - 1, by omega⟩
    obtain rfl : i = 8 * l.length := by omega
    rw [scullerref03_Count.l0, w64 (by omega) (by omega), if_neg (by omega)]
  | succ d ih =>
    intro k i hi hk
    obtain ⟨k, rfl⟩ : ∃ j, k = j + 1 := ⟨k - 1, by omega⟩
    have hc := cb_le (B l) i
    have := ih k (i + 1) (by omega) (by omega)
    simp only [cb] at this
    rw [scullerref03_Count.l0, w64 (x := 8 * (l.length : Int)) (by omega) (by omega), if_pos (by omega), refget_nat hb (by omega) k (by omega), Option.bind_some, w64 (x := (i : Int) + 1) (by omega) (by omega), w64 (x := ((cb (B l) i : Nat) : Int) + 1) (by omega) (by omega)]
    cases hB : B l i with
    | true => rw [if_pos rfl]; rw [hB] at this; exact this
    | false => rw [if_neg (by simp)]; rw [hB] at this; exact this
theorem refcount_eq {l : List Int} (hb : Bytes l) (hl : l.length < 100000) (k : Nat) (hk : 8 * l.length + 10 < k) : scullerref03_Count.f k l = some ((cb (B l) (8 * l.length) : Nat) : Int) :=
  refcount_loop hb hl (8 * l.length) k 0 (by omega) hk
theorem reffirst_loop {l : List Int} (hb : Bytes l) (hl : l.length < 100000) {m : Nat} (hm : B l m = false) (hm2 : ∀ i, i < m → B l i = true) {x : Nat} (hx : x ≤ 65536) : ∀ (d k i : Nat), i + d = min m x → d + 11 < k → scullerref03_First.l0 k l (x : Int) (i : Int) = some ((min m x : Nat) : Int) := by
  intro d
  induction d with
  | zero =>
    intro k i hi hk
    obtain ⟨k, rfl⟩ : ∃ j, k = j + 1 := ⟨k - 1, by omega⟩
    rw [scullerref03_First.l0]
    by_cases h : (i : Int) < (x : Int)
    · obtain rfl : i = m := by omega
      rw [if_pos h, refget_nat hb (by omega) k (by omega), Option.bind_some, hm, if_neg (by simp)]
      congr 1; omega
    · rw [if_neg h]
      congr 1
      unfold mx
      split <;> omega
  | succ d ih =>
    intro k i hi hk
    obtain ⟨k, rfl⟩ : ∃ j, k = j + 1 := ⟨k - 1, by omega⟩
    rw [scullerref03_First.l0, if_pos (by omega), refget_nat hb (by omega) k (by omega), Option.bind_some, hm2 i (by omega), if_pos rfl, w64 (by omega) (by omega)]
    exact ih k (i + 1) (by omega) (by omega)
theorem first_same {l : List Int} (hb : Bytes l) (hl : l.length < 100000) (a : Int) (k : Nat) (hk : 8 * l.length + 20 < k) : ∃ r, bits_First.f l a = some r ∧ scullerref03_First.f k l a = some r := by
  obtain ⟨m, hm, h1, h2⟩ := first_spec l
  have hm8 : m ≤ 8 * l.length := by
    rcases Nat.lt_or_ge (8 * l.length) m with h | h
    · have := h2 _ h; rw [B_out (Nat.le_refl _)] at this; cases this
    · exact h
  rw [first_eq hb (by omega), hm]
  refine ⟨_, rfl, ?_⟩
  unfold scullerref03_First.f
  by_cases h0 : a < 0
  · obtain ⟨k, rfl⟩ : ∃ j, k = j + 1 := ⟨k - 1, by omega⟩
    have e : mn a 65536 = a := by unfold mn; split <;> omega
    rw [e, scullerref03_First.l0, if_neg (by omega)]
    congr 1
    unfold mx mn
    repeat' split
    all_goals omega
  · obtain ⟨x, hx, e⟩ : ∃ x : Nat, x ≤ 65536 ∧ mn a 65536 = (x : Int) := ⟨(mn a 65536).toNat, by unfold mn; split <;> omega, by unfold mn; split <;> omega⟩
    rw [e]
    refine (reffirst_loop hb hl h1 h2 hx (min m x) k 0 (by omega) (by omega)).trans ?_
    congr 1
    unfold mx mn
    repeat' split
    all_goals omega
theorem refright_loop {l : List Int} (hb : Bytes l) (hl : l.length < 100000) : ∀ (d k i : Nat), 8 * l.length ≤ i + d → i ≤ 8 * l.length + 65536 → d + 10 < k → ∃ r, scullerref03_Right.l0 k l (i : Int) = some r ∧ (r = true ↔ ∀ j, i ≤ j → B l j = false) := by
  intro d
  induction d with
  | zero =>
    intro k i hi hi2 hk
    obtain ⟨k, rfl⟩ : ∃ j, k = j + 1 := ⟨k - 1, by omega⟩
    rw [scullerref03_Right.l0, w64 (by omega) (by omega), if_neg (by omega)]
    exact ⟨_, rfl, fun _ j hj => B_out (by omega), fun _ => rfl⟩
  | succ d ih =>
    intro k i hi hi2 hk
    obtain ⟨k, rfl⟩ : ∃ j, k = j + 1 := ⟨k - 1, by omega⟩
    rw [scullerref03_Right.l0, w64 (x := 8 * (l.length : Int)) (by omega) (by omega)]
    by_cases h : (i : Int) < 8 * (l.length : Int)
    · rw [if_pos h, refget_nat hb (by omega) k (by omega), Option.bind_some]
      cases hB : B l i with
      | true =>
        rw [if_pos rfl]
        exact ⟨_, rfl, fun h => (by cases h), fun h => by rw [h i (Nat.le_refl _)] at hB; cases hB⟩
      | false =>
        rw [if_neg (by simp), w64 (by omega) (by omega)]
        obtain ⟨r, e, hr⟩ := ih k (i + 1) (by omega) (by omega) (by omega)
        refine ⟨r, e, hr.trans ⟨fun h j hj => ?_, fun h j hj => h j (by omega)⟩⟩
        by_cases e : j = i
        · subst e; exact hB
        · exact h j (by omega)
    · rw [if_neg h]
      exact ⟨_, rfl, fun _ j hj => B_out (by omega), fun _ => rfl⟩
theorem right_same {l : List Int} (hb : Bytes l) (hl : l.length < 100000) (a : Int) (k : Nat) (hk : 8 * l.length + 20 < k) : ∃ r, bits_Right.f l a = some r ∧ scullerref03_Right.f k l a = some r := by
  by_cases h0 : a < 0
  · obtain ⟨k, rfl⟩ : ∃ j, k = j + 1 := ⟨k - 1, by omega⟩
    unfold bits_Right.f scullerref03_Right.f
    rw [if_pos h0, if_pos h0, scullerref03_Right.j0, if_pos rfl]
    exact ⟨_, rfl, rfl⟩
  · by_cases h1 : a > 65536
    · obtain ⟨k, rfl⟩ : ∃ j, k = j + 1 := ⟨k - 1, by omega⟩
      unfold bits_Right.f scullerref03_Right.f
      rw [if_neg h0, if_pos h1, if_neg h0, if_pos h1, scullerref03_Right.j0, if_pos rfl]
      exact ⟨_, rfl, rfl⟩
    · obtain ⟨n, rfl⟩ : ∃ n : Nat, a = n := ⟨a.toNat, by omega⟩
      have hn : n ≤ 65536 := by omega
      obtain ⟨r, e, hr⟩ := right_nat hb (by omega) hn
      obtain ⟨n', hn', e1, e2, e3⟩ := make_any (n : Int)
      rw [clamp_self hn] at e1
      obtain rfl : n = n' := by omega
      refine ⟨r, e, ?_⟩
      unfold scullerref03_Right.f
      rw [if_neg h0, if_neg h1, e3 k (by omega), Option.bind_some, List.length_replicate]
      obtain ⟨k, rfl⟩ : ∃ j, k = j + 1 := ⟨k - 1, by omega⟩
      rw [scullerref03_Right.j0]
      by_cases hq : l.length = (n + 7) / 8
      · rw [if_neg (by rw [← hq]; simp)]
        obtain ⟨r2, f2, hr2⟩ := refright_loop hb hl (8 * l.length) k n (by omega) (by omega) (by omega)
        rw [f2]
        congr 1
        have : r2 = true ↔ r = true := hr2.trans ⟨fun h => hr.2 ⟨hq, h⟩, fun h => (hr.1 h).2⟩
        cases r <;> cases r2 <;> simp at this <;> rfl
      · rw [if_pos (by simp; omega)]
        cases r with
        | false => rfl
        | true => exact absurd (hr.1 rfl).1 hq
end Go.Proofs.Ytbaokbfmancjlaa.C
