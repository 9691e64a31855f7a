/- BitsAsk: Make, Get, Set, Count, First and Right of any bytes and numbers are what the chapter says: for every row of bytes (of more than 200 the law asks nothing more than its example) and numbers. Conditions: none. -/
import Derived.Test.YtbaokbfmancjlaaCx8
import Derived.Test.YtbaokbfmancjlaaCBitsRefA
namespace Go.Proofs.Ytbaokbfmancjlaa.Pure
open Go.RowKit Go.Proofs.Ytbaokbfmancjlaa.C Go.Proofs.YtbaokbfmancjlaaW.PrintWords Go.Proofs.YtbaokbfmancjlaaW.PrintLast Go.Proofs.YtbaokbfmancjlaaW.PrintMore Go.Proofs.Ytbaokbfmancjlaa.Num

theorem asks_eq {l : List Int} (hb : Bytes l) (hl : l.length < 1000) {a n : Int} (ha : a ≤ 9223372036854775807) (k : Nat) (hk : 9000 < k) : scullerlaw03_asks.f k l a n = some true := by
  unfold scullerlaw03_asks.f
  obtain ⟨m, hm, _, e1, e2⟩ := make_any n
  rw [e1, Option.bind_some, e2 k (by omega), Option.bind_some, if_pos rfl, get_eq hb ha, Option.bind_some, refget_eq hb ha k (by omega), Option.bind_some, if_pos (by simp), set_eq hb (by omega) ha, Option.bind_some, refset_eq hb (by omega) ha k (by omega), Option.bind_some, beq_self_eq_true]
  obtain ⟨k, rfl⟩ : ∃ j, k = j + 1 := ⟨k - 1, by omega⟩
  obtain ⟨r, f1, f2⟩ := first_same hb (by omega) n k (by omega)
  obtain ⟨q, g1, g2⟩ := right_same hb (by omega) n k (by omega)
  rw [scullerlaw03_asks.j0, if_pos rfl, count_eq hb (by omega) k (by omega), Option.bind_some, refcount_eq hb (by omega) k (by omega), Option.bind_some, if_pos rfl, f1, Option.bind_some, f2, Option.bind_some, if_pos rfl, g1, Option.bind_some, g2, Option.bind_some, beq_self_eq_true]

theorem BitsAsk : scullerlaw03_BitsAsk.Pure := by
  intro l a n x _ _ hl ha hn hx
  have hb := Bytes.of_wf hl
  obtain ⟨a0, a1⟩ := bounds_i64 ha
  obtain ⟨x0, x1⟩ := bounds_u8 hx
  refine ⟨10001, ?_⟩
  unfold scullerlaw03_BitsAsk.f
  by_cases h : (l.length : Int) > 200
  · rw [if_pos h, scullerlaw03_BitsAsk.j0, if_pos rfl, known_eq 10000 (by omega)]; rfl
  · obtain ⟨i, rfl⟩ : ∃ i : Nat, x = i := ⟨x.toNat, by omega⟩
    rw [if_neg h, known_eq 10001 (by omega), Option.bind_some, scullerlaw03_BitsAsk.j0, if_neg (by simp), asks_eq hb (by omega) a1 10000 (by omega), Option.bind_some, if_pos rfl, w64 (x := (i : Int)) (by omega) (by omega), asks_eq hb (by omega) (by omega) 10000 (by omega), Option.bind_some, if_pos rfl,
      make_nat (n := i) (by omega), Option.bind_some, w64 (x := (i : Int) - 1) (by omega) (by omega), asks_eq (Bytes.zeros _) (by rw [List.length_replicate]; omega) (by omega) 10000 (by omega), Option.bind_some, if_pos rfl, w64 (x := (i : Int) + 9) (by omega) (by omega), show (i : Int) + 9 = ((i + 9 : Nat) : Int) by omega,
      make_nat (n := i + 9) (by omega), Option.bind_some, refset_nat (Bytes.zeros _) (by rw [List.length_replicate]; omega) (by omega) 10000 (by omega), Option.bind_some, w64 (x := (i : Int) + 1) (by omega) (by omega), asks_eq (setB_bytes (Bytes.zeros _) i) (by rw [setB_length, List.length_replicate]; omega) (by omega) 10000 (by omega)]
    rfl
end Go.Proofs.Ytbaokbfmancjlaa.Pure
