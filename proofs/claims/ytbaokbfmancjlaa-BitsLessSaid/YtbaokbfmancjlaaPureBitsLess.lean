/- BitsLess: one is within another one just if both together are the other one: for every two rows of bytes (where the first is longer, or the second of more than 200, the law asks nothing more than its example). Conditions: none. -/
import Derived.Test.YtbaokbfmancjlaaDx8
import Derived.Test.YtbaokbfmancjlaaDBitsW
import Derived.Test.YtbaokbfmancjlaaDBitsC
namespace Go.Proofs.Ytbaokbfmancjlaa.Pure
open Go.RowKit Go.Proofs.Ytbaokbfmancjlaa.D Go.Proofs.YtbaokbfmancjlaaW.PrintWords Go.Proofs.YtbaokbfmancjlaaW.PrintLast Go.Proofs.YtbaokbfmancjlaaW.PrintMore Go.Proofs.Ytbaokbfmancjlaa.Num

theorem cb_or (p q : Nat → Bool) (n : Nat) : cb (fun i => p i || q i) n ≤ cb p n + cb q n := by
  induction n with
  | zero => exact Nat.zero_le _
  | succ n ih =>
    simp only [cb]
    by_cases hp : p n = true <;> by_cases hq : q n = true <;> simp [hp, hq] <;> omega
theorem cb_out {l : List Int} (n : Nat) (h : 8 * l.length ≤ n) : cb (B l) n = cb (B l) (8 * l.length) := by
  obtain ⟨d, rfl⟩ : ∃ d, n = 8 * l.length + d := ⟨n - 8 * l.length, by omega⟩
  have e : cb (fun j => B l (8 * l.length + j)) d = 0 := by
    rw [cb_congr (q := fun j => decide (j < 0)) (fun j _ => by rw [B_out (l := l) (i := 8 * l.length + j) (by omega)]; exact (decide_eq_false (by omega)).symm), cb_lt]; omega
  rw [cb_add, e, Nat.add_zero]

theorem BitsLess : scullerlaw03_BitsLess.Pure := by
  intro a b _ _ hal _ _ hbl
  have ha := Bytes.of_wf hal
  have hb := Bytes.of_wf hbl
  have hout : scullerlaw03_BitsLess.j0 501 a b true = some true := by
    rw [scullerlaw03_BitsLess.j0, if_pos rfl, known_eq 500 (by omega)]; rfl
  refine ⟨501, ?_⟩
  unfold scullerlaw03_BitsLess.f
  by_cases h : (a.length : Int) > (b.length : Int)
  · rw [if_pos h]; exact hout
  · rw [if_neg h]
    by_cases h2 : (b.length : Int) > 200
    · rw [decide_eq_true h2]; exact hout
    · rw [decide_eq_false h2]
      obtain ⟨r, e, hr⟩ := within_spec ha hb (by omega)
      obtain ⟨z, ze, hz⟩ := within_spec (a := []) (b := a) (fun x hx => (by cases hx)) ha (by simp)
      obtain ⟨o, oe, ob, ol, oB⟩ := or_spec ha hb (by omega) (by omega) 500 (by omega)
      have hzt : z = true := hz.2 fun i hi => by rw [B_out (by simp)] at hi; cases hi
      subst hzt
      have hoe : (o = b) ↔ r = true := by
        rw [hr]
        constructor
        · intro he i hi
          have := oB i
          rw [he, hi] at this
          simpa using this
        · intro hs
          refine B_ext ob hb (by omega) fun i => ?_
          rw [oB]
          cases hA : B a i with
          | true => rw [hs i hA]; rfl
          | false => rfl
      have hrb : (r == ((strOfNums o).toList == (strOfNums b).toList)) = true := by
        rw [str_eq ob hb]
        by_cases q : o = b
        · rw [decide_eq_true q, hoe.1 q]; rfl
        · rw [decide_eq_false q]
          cases r with
          | false => rfl
          | true => exact absurd (hoe.2 rfl) q
      have c1 := cb_le (B a) (8 * a.length)
      have c2 := cb_le (B b) (8 * b.length)
      have c3 : cb (B o) (8 * o.length) ≤ cb (B a) (8 * a.length) + cb (B b) (8 * b.length) := by
        rw [cb_congr (fun i _ => oB i), ← cb_out (l := a) (8 * o.length) (by omega), ← cb_out (l := b) (8 * o.length) (by omega)]
        exact cb_or _ _ _
      rw [scullerlaw03_BitsLess.j0, if_neg (by simp), known_eq 500 (by omega), Option.bind_some, if_pos rfl, e, Option.bind_some, oe, Option.bind_some, if_pos hrb, ze, Option.bind_some, if_pos rfl, Option.bind_some,
        count_eq ob (by omega) 500 (by omega), Option.bind_some, count_eq ha (by omega) 500 (by omega), Option.bind_some, count_eq hb (by omega) 500 (by omega), Option.bind_some, w64 (by omega) (by omega)]
      congr 1
      exact decide_eq_true (by omega)
end Go.Proofs.Ytbaokbfmancjlaa.Pure
