/- BitsJoin: Or and Within of any bytes are what the chapter says: for every two rows of bytes (of more than 300 together the law asks nothing more than its example). Conditions: none. -/
import Derived.Test.YtbaokbfmancjlaaEx6
import Derived.Test.YtbaokbfmancjlaaEBitsW
import Derived.Test.YtbaokbfmancjlaaEBitsRefG
namespace Go.Proofs.Ytbaokbfmancjlaa.Pure
open Go.RowKit Go.Proofs.Ytbaokbfmancjlaa.E Go.Proofs.YtbaokbfmancjlaaW.PrintWords Go.Proofs.YtbaokbfmancjlaaW.PrintLast Go.Proofs.YtbaokbfmancjlaaW.PrintMore Go.Proofs.Ytbaokbfmancjlaa.Num

theorem refor_loop {a b : List Int} (ha : Bytes a) (hb : Bytes b) (n : Nat) (hn : n ≤ 300) : ∀ (d k i : Nat) (x : List Int), i + d = 8 * n → d + 10 < k → Bytes x → x.length = n → (∀ j, B x j = (decide (j < i) && (B a j || B b j))) →
    ∃ r, scullerref03_Or.l0 k a b x (i : Int) = some r ∧ Bytes r ∧ r.length = n ∧ ∀ j, B r j = (decide (j < 8 * n) && (B a j || B b j)) := by
  intro d
  induction d with
  | zero =>
    intro k i x hi hk hx hxl hB
    obtain ⟨k, rfl⟩ : ∃ j, k = j + 1 := ⟨k - 1, by omega⟩
    obtain rfl : i = 8 * n := by omega
    rw [scullerref03_Or.l0, w64 (by omega) (by omega), if_neg (by omega)]
    exact ⟨x, rfl, hx, hxl, hB⟩
  | succ d ih =>
    intro k i x hi hk hx hxl hB
    obtain ⟨k, rfl⟩ : ∃ j, k = j + 1 := ⟨k - 1, by omega⟩
    have hset : (B a i || B b i) = true → ∀ j, B (setB x i) j = (decide (j < i + 1) && (B a j || B b j)) := fun hv j => by
      rw [B_set, hB]
      by_cases e : i = j
      · subst e
        rw [hv, decide_eq_true (show i = i ∧ i < 8 * x.length by omega), decide_eq_true (show i < i + 1 by omega)]; simp
      · rw [decide_eq_false (show ¬ (i = j ∧ i < 8 * x.length) by omega), Bool.or_false]
        congr 1
        exact decide_eq_decide.2 ⟨fun q => by omega, fun q => by omega⟩
    have hno : (B a i || B b i) = false → ∀ j, B x j = (decide (j < i + 1) && (B a j || B b j)) := fun hv j => by
      rw [hB]
      by_cases e : i = j
      · subst e
        rw [hv, Bool.and_false, Bool.and_false]
      · congr 1
        exact decide_eq_decide.2 ⟨fun q => by omega, fun q => by omega⟩
    rw [scullerref03_Or.l0, w64 (x := 8 * (x.length : Int)) (by omega) (by omega), if_pos (by omega), refget_nat ha (by omega) k (by omega), Option.bind_some, refget_nat hb (by omega) k (by omega), Option.bind_some, refset_nat hx (by omega) (by omega) k (by omega), Option.bind_some, w64 (x := (i : Int) + 1) (by omega) (by omega)]
    cases hA : B a i with
    | true =>
      rw [if_pos rfl]
      exact ih k (i + 1) _ (by omega) (by omega) (setB_bytes hx i) (by rw [setB_length]; exact hxl) (hset (by rw [hA]; rfl))
    | false =>
      rw [if_neg (by simp)]
      cases hBb : B b i with
      | true =>
        rw [if_pos rfl]
        exact ih k (i + 1) _ (by omega) (by omega) (setB_bytes hx i) (by rw [setB_length]; exact hxl) (hset (by rw [hA, hBb]; rfl))
      | false =>
        rw [if_neg (by simp)]
        exact ih k (i + 1) _ (by omega) (by omega) hx hxl (hno (by rw [hA, hBb]; rfl))
theorem refor_same {a b : List Int} (ha : Bytes a) (hb : Bytes b) (hl : a.length + b.length ≤ 300) (k : Nat) (hk : 3000 < k) :
    ∃ r, bits_Or.f k a b = some r ∧ scullerref03_Or.f k a b = some r ∧ Bytes r ∧ ∀ j, B r j = (B a j || B b j) := by
  obtain ⟨r, e, hr, hrl, hB⟩ := or_spec ha hb (by omega) (by omega) k (by omega)
  have em : mx (a.length : Int) (b.length : Int) = ((max a.length b.length : Nat) : Int) := by unfold mx; split <;> omega
  obtain ⟨q, f, hq, hql, hqB⟩ := refor_loop ha hb (max a.length b.length) (by omega) (8 * max a.length b.length) k 0 (List.replicate (max a.length b.length) 0) (by omega) (by omega) (Bytes.zeros _) (by simp) (fun j => by rw [B_zeros, decide_eq_false (by omega)]; rfl)
  have eq : r = q := B_ext hr hq (by omega) fun j => by
    rw [hB, hqB]
    by_cases h : j < 8 * max a.length b.length
    · rw [decide_eq_true h, Bool.true_and]
    · rw [decide_eq_false h, B_out (l := a) (by omega), B_out (l := b) (by omega)]; rfl
  subst eq
  refine ⟨r, e, ?_, hr, hB⟩
  unfold scullerref03_Or.f
  rw [em, if_pos (by omega), if_pos (by omega), Int.toNat_natCast]
  exact f
theorem refwithin_loop {a b : List Int} (ha : Bytes a) (hb : Bytes b) (hl : a.length ≤ 300) : ∀ (d k i : Nat), i + d = 8 * a.length → d + 10 < k → ∃ r, scullerref03_Within.l0 k a b (i : Int) = some r ∧ (r = true ↔ ∀ j, i ≤ j → B a j = true → B b j = true) := by
  intro d
  induction d with
  | zero =>
    intro k i hi hk
    obtain ⟨k, rfl⟩ : ∃ j, k = j + 1 := ⟨k - 1, by omega⟩
    rw [scullerref03_Within.l0, w64 (by omega) (by omega), if_neg (by omega)]
    exact ⟨true, rfl, fun _ j hj hA => (by rw [B_out (by omega)] at hA; cases hA), fun _ => rfl⟩
  | succ d ih =>
    intro k i hi hk
    obtain ⟨k, rfl⟩ : ∃ j, k = j + 1 := ⟨k - 1, by omega⟩
    obtain ⟨r, e, hr⟩ := ih k (i + 1) (by omega) (by omega)
    rw [scullerref03_Within.l0, w64 (x := 8 * (a.length : Int)) (by omega) (by omega), if_pos (by omega), refget_nat ha (by omega) k (by omega), Option.bind_some, refget_nat hb (by omega) k (by omega), Option.bind_some, w64 (x := (i : Int) + 1) (by omega) (by omega)]
    cases hA : B a i with
    | true =>
      rw [if_pos rfl]
      cases hBb : B b i with
      | true =>
        rw [if_pos rfl]
        refine ⟨r, e, hr.trans ⟨fun q j hj hA2 => ?_, fun q j hj => q j (by omega)⟩⟩
        by_cases ej : j = i
        · subst ej; exact hBb
        · exact q j (by omega) hA2
      | false =>
        rw [if_neg (by simp)]
        refine ⟨false, rfl, fun q => (by cases q), fun q => ?_⟩
        rw [q i (Nat.le_refl _) hA] at hBb; cases hBb
    | false =>
      rw [if_neg (by simp)]
      refine ⟨r, e, hr.trans ⟨fun q j hj hA2 => ?_, fun q j hj => q j (by omega)⟩⟩
      by_cases ej : j = i
      · subst ej; rw [hA] at hA2; cases hA2
      · exact q j (by omega) hA2
theorem within_same {a b : List Int} (ha : Bytes a) (hb : Bytes b) (hl : a.length ≤ 300) (k : Nat) (hk : 3000 < k) : ∃ r, bits_Within.f a b = some r ∧ scullerref03_Within.f k a b = some r := by
  obtain ⟨r, e, hr⟩ := within_spec ha hb (by omega)
  obtain ⟨q, f, hq⟩ := refwithin_loop ha hb hl (8 * a.length) k 0 (by omega) (by omega)
  refine ⟨r, e, ?_⟩
  have : q = true ↔ r = true := hq.trans ⟨fun h => hr.2 fun i hi => h i (by omega) hi, fun h j _ hj => hr.1 h j hj⟩
  have eq : q = r := by cases r <;> cases q <;> simp at this <;> rfl
  rw [← eq]
  exact f

theorem BitsJoin : scullerlaw03_BitsJoin.Pure := by
  intro a b al _ hal bl _ hbl
  have ha := Bytes.of_wf hal
  have hb := Bytes.of_wf hbl
  refine ⟨4001, ?_⟩
  unfold scullerlaw03_BitsJoin.f
  rw [w64 (by omega) (by omega)]
  by_cases h : (a.length : Int) + (b.length : Int) > 300
  · rw [if_pos h, scullerlaw03_BitsJoin.j0, if_pos rfl, known_eq 4000 (by omega)]; rfl
  · obtain ⟨o, o1, o2, ob, oB⟩ := refor_same ha hb (by omega) 4000 (by omega)
    obtain ⟨r, r1, r2⟩ := within_same ha hb (by omega) 4000 (by omega)
    obtain ⟨s, s1, s2⟩ := within_same hb ha (by omega) 4000 (by omega)
    obtain ⟨t, t1, ht⟩ := within_spec ha ob (by omega)
    obtain ⟨u, u1, hu⟩ := within_spec hb ob (by omega)
    have tt : t = true := ht.2 fun i hi => by rw [oB, hi]; rfl
    have uu : u = true := hu.2 fun i hi => by rw [oB, hi]; simp
    subst tt uu
    rw [if_neg h, known_eq 4001 (by omega), Option.bind_some, scullerlaw03_BitsJoin.j0, if_neg (by simp), o2, Option.bind_some, o1, Option.bind_some, if_pos rfl, r1, Option.bind_some, r2, Option.bind_some, if_pos (by simp), s1, Option.bind_some, s2, Option.bind_some, if_pos (by simp), t1, Option.bind_some, if_pos rfl, u1]
    rfl
end Go.Proofs.Ytbaokbfmancjlaa.Pure
