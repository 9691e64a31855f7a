/- A row lies as it lay behind stores into all cells of a block of another type. Conditions: those in each theorem. -/
import Derived.Test.YtcjicfpdmegckaaWWords
namespace Go.Proofs.YtcjicfpdmegckaaW.PrintWords.Far
open Go Go.RowKit Go.Proofs.YtcjicfpdmegckaaW.PrintWords
variable {α : Type} {d : Kd α} {e base g t : Nat} {ok : Nat → Prop} {W : World} {v : Value} {xs : List α} {cells : Array Value}
theorem far4 (h : Kd.R d e W base ok v xs) (hb : W.heap[g]? = some (.cells cells t (0, 0))) (ht : ∀ q, q ∈ e :: d.E → q ≠ t) (v0 v1 v2 v3 : Value) :
    Kd.R d e ((((W.setCell ⟨g, 0, none⟩ v0).setCell ⟨g, 1, none⟩ v1).setCell ⟨g, 2, none⟩ v2).setCell ⟨g, 3, none⟩ v3) base ok v xs :=
  Kd.R_mono (Kd.R_far (p := ⟨g, 3, none⟩) (Kd.R_far (p := ⟨g, 2, none⟩) (Kd.R_far (p := ⟨g, 1, none⟩) (Kd.R_far (p := ⟨g, 0, none⟩) (Kd.R_types h hb ht) (fun _ hk => hk.2) v0) (fun _ hk => hk.2) v1) (fun _ hk => hk.2) v2) (fun _ hk => hk.2) v3) (fun _ hk => hk.1)
theorem far7 (h : Kd.R d e W base ok v xs) (hb : W.heap[g]? = some (.cells cells t (0, 0))) (ht : ∀ q, q ∈ e :: d.E → q ≠ t) (v0 v1 v2 v3 v4 v5 v6 : Value) :
    Kd.R d e (((((((W.setCell ⟨g, 0, none⟩ v0).setCell ⟨g, 1, none⟩ v1).setCell ⟨g, 2, none⟩ v2).setCell ⟨g, 3, none⟩ v3).setCell ⟨g, 4, none⟩ v4).setCell ⟨g, 5, none⟩ v5).setCell ⟨g, 6, none⟩ v6) base ok v xs :=
  Kd.R_mono (Kd.R_far (p := ⟨g, 6, none⟩) (Kd.R_far (p := ⟨g, 5, none⟩) (Kd.R_far (p := ⟨g, 4, none⟩) (Kd.R_far (p := ⟨g, 3, none⟩) (Kd.R_far (p := ⟨g, 2, none⟩) (Kd.R_far (p := ⟨g, 1, none⟩) (Kd.R_far (p := ⟨g, 0, none⟩) (Kd.R_types h hb ht) (fun _ hk => hk.2) v0) (fun _ hk => hk.2) v1) (fun _ hk => hk.2) v2) (fun _ hk => hk.2) v3) (fun _ hk => hk.2) v4) (fun _ hk => hk.2) v5) (fun _ hk => hk.2) v6) (fun _ hk => hk.1)
/-- What lay in W lies in W' as it lay. -/
class Lies (W W' : World) : Prop where
  below : Below W.heap.size W W'
instance (W : World) : Lies W W := ⟨Below.refl _ _⟩
instance (W W' : World) (o : Obj) [h : Lies W W'] : Lies W (W'.alloc o) := ⟨below_alloc h.below o⟩
instance (W W' : World) [h : Lies W W'] : Lies W W'.drew := ⟨below_drew1 h.below⟩
instance (W W' : World) (n : Nat) [h : Lies W W'] : Lies W (W'.drewN n) := ⟨pw_below_drewN h.below n⟩
theorem Ra {W' : World} (h : Kd.R d e W base ok v xs) [i : Lies W W'] : Kd.R d e W' base ok v xs := Kd.R_below h i.below
theorem Ba {W' : World} {o : Obj} (h : W.heap[g]? = some o) [i : Lies W W'] : W'.heap[g]? = some o := blk_below h i.below
theorem Bb {w0 W W' : World} {b : Nat} (h : Below b w0 W) [i : Lies W W'] (hb : b ≤ w0.heap.size := by exact Nat.le_refl _) : Below b w0 W' := by
  exact h.trans (i.below.mono (Nat.le_trans (by exact hb) h.size))
end Go.Proofs.YtcjicfpdmegckaaW.PrintWords.Far
