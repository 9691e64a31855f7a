/- BitsFirst: all bits ahead of the first that is not set are; with it set the first one is later: for every row of bytes (of more than 100 the law asks nothing more than its example) and number. Conditions: none. -/
import Derived.Test.YtbaokbfmancjlaaCx3
import Derived.Test.YtbaokbfmancjlaaCBits
namespace Go.Proofs.Ytbaokbfmancjlaa.Pure
open Go.RowKit Go.Proofs.Ytbaokbfmancjlaa.C Go.Proofs.YtbaokbfmancjlaaW.PrintWords Go.Proofs.YtbaokbfmancjlaaW.PrintLast Go.Proofs.YtbaokbfmancjlaaW.PrintMore Go.Proofs.Ytbaokbfmancjlaa.Num

theorem clamp_nat {n : Nat} (h : n ≤ 65536) : mx 0 (mn (n : Int) 65536) = (n : Int) := by unfold mx mn; split <;> split <;> omega
theorem first_nat {l : List Int} (hb : Bytes l) (hl : l.length < 140737488355328) {n : Nat} (hn : n ≤ 65536) : ∃ m, B l m = false ∧ (∀ i, i < m → B l i = true) ∧ bits_First.f l (n : Int) = some ((min m n : Nat) : Int) := by
  obtain ⟨m, hm, h1, h2⟩ := first_spec l
  refine ⟨m, h1, h2, ?_⟩
  rw [first_eq hb hl, hm, clamp_nat hn]
  congr 1
  unfold mn
  split <;> omega
theorem first_loop {l : List Int} (hb : Bytes l) (hl : l.length ≤ 100) (M m : Nat) (hM : M ≤ 8 * l.length) (hm0 : B l m = false) (hm : ∀ i, i < m → B l i = true) : ∀ (d k i : Nat), i + d = min m M → d + 5 < k →
    scullerlaw03_BitsFirst.l0 k l (M : Int) ((min m M : Nat) : Int) (i : Int) = some true := by
  intro d
  induction d with
  | zero =>
    intro k i hi hk
    obtain ⟨k, rfl⟩ : ∃ j, k = j + 1 := ⟨k - 1, by omega⟩
    rw [scullerlaw03_BitsFirst.l0, if_neg (by omega), known_eq k (by omega), Option.bind_some, if_pos rfl, if_pos (by omega), if_pos (by omega)]
    by_cases he : ((min m M : Nat) : Int) = (M : Int)
    · rw [if_pos he]
    · have hmm : min m M = m := by omega
      rw [if_neg he, hmm, get_nat hb (by omega), Option.bind_some, hm0, if_neg (by simp), set_nat hb (by omega) (by omega), Option.bind_some]
      obtain ⟨q, q1, q2, q3⟩ := first_nat (l := setB l m) (setB_bytes hb m) (by rw [setB_length]; omega) (n := M) (by omega)
      rw [q3, Option.bind_some]
      congr 1
      refine decide_eq_true ?_
      have hq : m < q := by
        rcases Nat.lt_or_ge m q with h | h
        · exact h
        · rw [B_set] at q1
          rcases Nat.lt_or_ge q m with h2 | h2
          · rw [hm q h2] at q1; cases q1
          · obtain rfl : q = m := by omega
            rw [decide_eq_true (by omega)] at q1
            simp at q1
      omega
  | succ d ih =>
    intro k i hi hk
    obtain ⟨k, rfl⟩ : ∃ j, k = j + 1 := ⟨k - 1, by omega⟩
    rw [scullerlaw03_BitsFirst.l0, if_pos (by omega), get_nat hb (by omega), Option.bind_some, hm i (by omega), if_pos rfl, w64 (by omega) (by omega)]
    exact ih k (i + 1) (by omega) (by omega)

theorem BitsFirst : scullerlaw03_BitsFirst.Pure := by
  intro l a _ _ hl ha
  have hb := Bytes.of_wf hl
  obtain ⟨a0, a1⟩ := bounds_u16 ha
  unfold scullerlaw03_BitsFirst.f
  by_cases h : (l.length : Int) > 100
  · refine ⟨5, ?_⟩
    rw [if_pos h, known_eq 5 (by omega)]; rfl
  · obtain ⟨n, rfl⟩ : ∃ n : Nat, a = n := ⟨a.toNat, by omega⟩
    refine ⟨900, ?_⟩
    rw [if_neg h, w64 (x := 8 * (l.length : Int)) (by omega) (by omega), w64 (x := 8 * (l.length : Int) + 1) (by omega) (by omega), if_neg (by omega), w64 (x := (n : Int)) (by omega) (by omega), tmodn (by omega)]
    have e : (n : Int) % (8 * (l.length : Int) + 1) = ((n % (8 * l.length + 1) : Nat) : Int) := by simp
    rw [e]
    have hM : n % (8 * l.length + 1) < 8 * l.length + 1 := Nat.mod_lt _ (by omega)
    generalize n % (8 * l.length + 1) = M at hM
    obtain ⟨m, m1, m2, m3⟩ := first_nat (l := l) hb (by omega) (n := M) (by omega)
    rw [m3, Option.bind_some]
    exact first_loop hb (by omega) M m (by omega) m1 m2 (min m M) 900 0 (by omega) (by omega)
end Go.Proofs.Ytbaokbfmancjlaa.Pure
