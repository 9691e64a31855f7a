/- BitsEnds: no bit lies ahead of the first one, or behind the last one; what is no row of so many is told: for every number of bits below 256 and every place. Conditions: none. -/
import Derived.Test.YtbaokbfmancjlaaCx10
import Derived.Test.YtbaokbfmancjlaaCBitsR
namespace Go.Proofs.Ytbaokbfmancjlaa.Pure
open Go.RowKit Go.Proofs.Ytbaokbfmancjlaa.C Go.Proofs.YtbaokbfmancjlaaW.PrintWords Go.Proofs.YtbaokbfmancjlaaW.PrintLast Go.Proofs.YtbaokbfmancjlaaW.PrintMore Go.Proofs.Ytbaokbfmancjlaa.Num

theorem ends_j {n : Nat} (hn : n ≤ 255) {a : Int} (ha : a ≤ 9223372036854775807) (c : List Int) (inside : Bool) (hc : Bytes c) (hcl : c.length = (n + 7) / 8)
    (hg : (decide (0 ≤ a) && B c a.toNat) = inside) (hs : inside = false → c = List.replicate ((n + 7) / 8) 0) (hr : (∀ i, n ≤ i → B c i = false) ↔ (inside = true → a < (n : Int))) (k : Nat) (hk : 4 < k) :
    scullerlaw03_BitsEnds.j0 k a (n : Int) (List.replicate ((n + 7) / 8) 0) c inside = some true := by
  obtain ⟨k, rfl⟩ : ∃ j, k = j + 1 := ⟨k - 1, by omega⟩
  obtain ⟨r1, e1, h1⟩ := right_nat (l := List.replicate ((n + 7) / 8) 0) (Bytes.zeros _) (by simp; omega) (n := n) (by omega)
  obtain ⟨r2, e2, h2⟩ := right_nat (l := List.replicate ((n + 8 + 7) / 8) 0) (Bytes.zeros _) (by simp; omega) (n := n) (by omega)
  obtain ⟨r3, e3, h3⟩ := right_nat (l := c) hc (by omega) (n := n) (by omega)
  have t1 : r1 = true := h1.2 ⟨by simp, fun i _ => B_zeros _ _⟩
  have t2 : r2 = false := by
    cases hb : r2 with
    | false => rfl
    | true => have := (h2.1 hb).1; simp at this; omega
  have e4 : bits_Right.f (List.replicate ((n + 7) / 8) 0) (-1) = some false := rfl
  have e5 : bits_Make.f ((n : Int) + 8) = some (List.replicate ((n + 8 + 7) / 8) 0) := make_nat (n := n + 8) (by omega)
  subst t1 t2
  rw [scullerlaw03_BitsEnds.j0, known_eq k (by omega), Option.bind_some, if_pos rfl, get_eq hc ha, hg, Option.bind_some, if_pos (by simp), e1, w64 (x := (n : Int) + 8) (by omega) (by omega), e5]
  cases inside with
  | true =>
    simp only [Option.bind_some, if_true, e2, e4, e3]
    simp only [Bool.false_eq_true, if_false]
    congr 1
    simp only [forall_const] at hr
    by_cases h : a < (n : Int)
    · rw [decide_eq_true h, h3.2 ⟨hcl, hr.2 h⟩]; rfl
    · rw [decide_eq_false h]
      cases r3 with
      | false => rfl
      | true => exact absurd (hr.1 (h3.1 rfl).2) h
  | false =>
    rw [if_neg (by simp), ← hs rfl, if_pos rfl]
    simp only [Option.bind_some, if_true]
    rw [hs rfl, e2, e4]
    simp only [Option.bind_some, Bool.false_eq_true, if_false]
    rw [← hs rfl, e3, Option.bind_some]
    rw [h3.2 ⟨hcl, hr.2 (fun h => (by cases h))⟩]; rfl

theorem BitsEnds : scullerlaw03_BitsEnds.Pure := by
  intro x a hx ha
  obtain ⟨x0, x1⟩ := bounds_u8 hx
  obtain ⟨a0, a1⟩ := bounds_i64 ha
  obtain ⟨n, rfl⟩ : ∃ n : Nat, x = n := ⟨x.toNat, by omega⟩
  refine ⟨6, ?_⟩
  unfold scullerlaw03_BitsEnds.f
  have hz := Bytes.zeros ((n + 7) / 8)
  rw [w64 (x := (n : Int)) (by omega) (by omega), make_nat (by omega), Option.bind_some, set_eq hz (by simp; omega) a1, Option.bind_some, List.length_replicate, w64 (by omega) (by omega)]
  by_cases h : a ≥ 0
  · obtain ⟨i, rfl⟩ : ∃ i : Nat, a = i := ⟨a.toNat, by omega⟩
    rw [if_pos h, if_pos h, Int.toNat_natCast]
    by_cases hi : (i : Int) < 8 * (((n + 7) / 8 : Nat) : Int)
    · rw [decide_eq_true hi]
      refine ends_j (by omega) a1 _ true (setB_bytes hz _) (by rw [setB_length, List.length_replicate]) ?_ (fun h => (by cases h)) ?_ 6 (by omega)
      · rw [Int.toNat_natCast, B_set, B_zeros, decide_eq_true h, decide_eq_true (by simp; omega)]; rfl
      · constructor
        · intro h1 _
          rcases Nat.lt_or_ge i n with h2 | h2
          · omega
          · have := h1 i h2
            rw [B_set, decide_eq_true (by simp; omega)] at this
            simp at this
        · intro h1 j hj
          have := h1 rfl
          rw [B_set, B_zeros, decide_eq_false (by omega)]; rfl
    · rw [decide_eq_false hi, setB_out (by simp; omega)]
      refine ends_j (by omega) a1 _ false hz (by simp) ?_ (fun _ => rfl) ⟨fun _ h => (by cases h), fun _ i _ => B_zeros _ _⟩ 6 (by omega)
      rw [B_zeros]; simp
  · rw [if_neg h, if_neg (by omega)]
    refine ends_j (by omega) a1 _ false hz (by simp) ?_ (fun _ => rfl) ⟨fun _ h => (by cases h), fun _ i _ => B_zeros _ _⟩ 6 (by omega)
    rw [B_zeros]; simp
end Go.Proofs.Ytbaokbfmancjlaa.Pure
