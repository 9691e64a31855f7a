/- BitsSpoil: what is handed in stays as it was, and what comes out, spoilt, changes nothing: for every row of bytes (of more than 100 the law asks nothing more than its example) and place. Conditions: none. -/
import Derived.Test.YtbaokbfmancjlaaDx4
import Derived.Test.YtbaokbfmancjlaaDBitsO
namespace Go.Proofs.Ytbaokbfmancjlaa.Pure
open Go.RowKit Go.Proofs.Ytbaokbfmancjlaa.D Go.Proofs.YtbaokbfmancjlaaW.PrintWords Go.Proofs.YtbaokbfmancjlaaW.PrintLast Go.Proofs.YtbaokbfmancjlaaW.PrintMore Go.Proofs.Ytbaokbfmancjlaa.Num

theorem spoil_loop (l : List Int) (hl : l.length ≤ 100) : ∀ (d k i : Nat) (x y : List Int), i + d = l.length → d + 5 < k → x.length = l.length → y.length = l.length →
    scullerlaw03_BitsSpoil.l0 k l (strOfNums l) x y (i : Int) = some true := by
  intro d
  induction d with
  | zero =>
    intro k i x y hi hk hx hy
    obtain ⟨k, rfl⟩ : ∃ j, k = j + 1 := ⟨k - 1, by omega⟩
    rw [scullerlaw03_BitsSpoil.l0, if_neg (by omega), known_eq k (by omega), Option.bind_some, if_pos rfl, if_pos rfl, if_pos (by omega), hy, beq_self_eq_true]
  | succ d ih =>
    intro k i x y hi hk hx hy
    obtain ⟨k, rfl⟩ : ∃ j, k = j + 1 := ⟨k - 1, by omega⟩
    rw [scullerlaw03_BitsSpoil.l0, if_pos (by omega), if_pos (by omega), if_pos (by omega), w64 (by omega) (by omega)]
    exact ih k (i + 1) _ _ (by omega) (by omega) (by rw [List.length_set]; exact hx) (by rw [List.length_set]; exact hy)

theorem BitsSpoil : scullerlaw03_BitsSpoil.Pure := by
  intro l a _ _ hl ha
  have hb := Bytes.of_wf hl
  obtain ⟨a0, a1⟩ := bounds_u8 ha
  obtain ⟨n, rfl⟩ : ∃ n : Nat, a = n := ⟨a.toNat, by omega⟩
  unfold scullerlaw03_BitsSpoil.f
  by_cases h : (l.length : Int) > 100
  · refine ⟨5, ?_⟩
    rw [if_pos h, known_eq 5 (by omega)]; rfl
  · refine ⟨200, ?_⟩
    obtain ⟨r, e, _, hr, _⟩ := or_spec hb (b := []) (fun x hx => (by cases hx)) (by omega) (by simp) 200 (by simp; omega)
    rw [if_neg h, w64 (by omega) (by omega), set_nat hb (by omega) (by omega), Option.bind_some, e, Option.bind_some]
    exact spoil_loop l (by omega) l.length 200 0 _ _ (by omega) (by omega) (setB_length _ _) (by rw [hr]; simp)
end Go.Proofs.Ytbaokbfmancjlaa.Pure
