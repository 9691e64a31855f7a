/- What a store's calls leave as it was, told of any fact of memory. -/
import Derived.Test.YtliohoalackhiaaHTKeepL
namespace Go.Proofs.Ytliohoalackhiaa.T
open Go.ChangeMaps hiding rd
open Go.RowKit Go.Maps Go.Proofs.YtliohoalackhiaaW.PrintWords Go.Proofs.YtliohoalackhiaaW.PrintLast Go.Proofs.YtliohoalackhiaaW.PrintMore Go.Proofs.Ytliohoalackhiaa.Num
set_option linter.unusedVariables false
set_option linter.unusedSimpArgs false
/-- blocks that no call of a store writes, by their type -/
def Calm (w : World) (k : Nat) : Prop := ∃ cs t fr, w.heap[k]? = some (.cells cs t fr) ∧ t ≠ 112 ∧ t ≠ 119
theorem Calm.lt {w : World} {k : Nat} (h : Calm w k) : k < w.heap.size := by
  obtain ⟨cs, t, fr, h, _⟩ := h
  exact blk_lt h
theorem Calm.step {w w' : World} {k : Nat} (h : Calm w k) (hm : w'.heap[k]? = w.heap[k]?) : Calm w' k := by
  obtain ⟨cs, t, fr, h, ht⟩ := h
  exact ⟨cs, t, fr, hm.trans h, ht⟩
theorem Sto.calm {w : World} {base g m1 m2 : Nat} {lo : Value} {A1 A2 : Hist × List Int} {steps : List Step} (h : Sto w base g m1 m2 lo A1 A2 steps) {k : Nat} (hk : Own g m1 m2 lo k) : ¬ Calm w k := by
  rintro ⟨cs, t, fr, hc, n1, n2⟩
  obtain ⟨⟨t1, t2, hg, r1, r2⟩, h1, h2, ne, bg, b1, b2, fs, hR, hl⟩ := h
  rcases hk with rfl | rfl | rfl | hk
  · rw [hg] at hc
    injection hc with hc
    injection hc with _ e _
    exact n1 e.symm
  · obtain ⟨_, ⟨es, clock, hb, _⟩, _⟩ := h1
    rw [hb] at hc
    cases hc
  · obtain ⟨_, ⟨es, clock, hb, _⟩, _⟩ := h2
    rw [hb] at hc
    cases hc
  · obtain ⟨cells, hc2⟩ := Kd.R_typed hR k hk
    rw [hc2] at hc
    injection hc with hc
    injection hc with _ e _
    exact n2 e.symm
/-- all that is older than b, and all that is calm, is as it was -/
def Keeps (b : Nat) (w w' : World) : Prop := ∀ k, k < b ∨ Calm w k → w'.heap[k]? = w.heap[k]?
theorem Keeps.of_below {b : Nat} {w w' : World} (h : Below w.heap.size w w') (hb : b ≤ w.heap.size) : Keeps b w w' := fun k hk => h.block k (hk.elim (fun q => by omega) (fun q => q.lt))
theorem Keeps.of_mv {b : Nat} {w w' : World} {g m1 m2 : Nat} {lo : Value} {A1 A2 : Hist × List Int} {steps : List Step} (mv : Mv w w' (Own g m1 m2 lo)) (h : Sto w b g m1 m2 lo A1 A2 steps) (hb : b ≤ w.heap.size) : Keeps b w w' := fun k hk =>
  mv.k.2 k (hk.elim (fun q => by omega) (fun q => q.lt)) (fun q => hk.elim (fun hk => by have := h.base q; omega) (fun hk => h.calm q hk))
theorem Keeps.trans {b : Nat} {w w1 w2 : World} (h : Keeps b w w1) (h2 : Keeps b w1 w2) : Keeps b w w2 := fun k hk => (h2 k (hk.imp_right (fun q => q.step (h k hk)))).trans (h k hk)
/-- a fact that stays -/
def Stay (b : Nat) (w : World) (P : World → Prop) : Prop := ∀ W, Keeps b w W → P W
theorem Stay.now {b : Nat} {w : World} {P : World → Prop} (h : Stay b w P) : P w := h w (fun _ _ => rfl)
theorem Stay.step {b : Nat} {w w' : World} {P : World → Prop} (h : Stay b w P) (hk : Keeps b w w') : Stay b w' P := fun W hW => h W (hk.trans hW)
theorem Stay.and {b : Nat} {w : World} {P Q : World → Prop} (h : Stay b w P) (h2 : Stay b w Q) : Stay b w (fun W => P W ∧ Q W) := fun W hW => ⟨h W hW, h2 W hW⟩
theorem stay_R {α : Type} {d : Kd α} {e : Nat} {w : World} {b base : Nat} {ok : Nat → Prop} {A : Option Addr} {n c : Nat} {xs : List α} (h : d.R e w base ok (.slice A n c) xs) (he : ∀ q, q ∈ e :: d.E → q ≠ 112 ∧ q ≠ 119) : Stay b w (fun W => d.C W A n xs) := fun W hW =>
  Kd.F_now (Kd.F_step (Kd.R_F (Kd.R_bound h)) (fun k hk _ => hW k (.inr (by
    obtain ⟨_, _, _, q, hq, cells, hc⟩ := hk
    exact ⟨cells, q, _, hc, he q hq⟩))))
theorem stay_blk {b : Nat} {w : World} {g : Nat} {cs : Array Value} {t : TypeId} {fr : Nat × Nat} (h : w.heap[g]? = some (.cells cs t fr)) (h1 : t ≠ 112) (h2 : t ≠ 119) : Stay b w (fun W => W.heap[g]? = some (.cells cs t fr)) := fun W hW => (hW g (.inr ⟨cs, t, fr, h, h1, h2⟩)).trans h
end Go.Proofs.Ytliohoalackhiaa.T
