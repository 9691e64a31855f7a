/- A store in memory: what is there, what lasts, the steps that do not yet; keep.New and the three kinds of steps. -/
/- Blocks of so many cells, each told at once; values laid over a block. Conditions: those in each theorem. -/
/- append onto a row of one's own of many cells an element, up to what growslice's own test allows. Conditions: those in each theorem. -/
/- keep.New; the three kinds of steps; do. -/
/- What is done to a store: do, Put, Clear. -/
/- Put and Clear of a store. -/
/- Copies of a store's maps; Flush. -/
/- Flush, Loose, Get of a store. -/
/- Crash of a store. -/
/- Held of a store: the bits of the chunks that are there, in whatever order the map hands them out. -/
/- The chapter's example of a store holds. -/
import Derived.Maps.OwnSet
import Derived.Shelf.RegionOpen
import Derived.WalkKit
import Derived.Lib.Hide
import Derived.OpenShut
import Derived.WalkLawsBesides
import Derived.Test.YtliohoalackhiaaPTx0
import Derived.Test.YtliohoalackhiaaPTgClone
import Derived.Test.YtliohoalackhiaaPW
import Derived.StillTailTactics
import Derived.Shelf.SlMaps.Clone
import Derived.Deep.DeepAppendWide
import Derived.Deep.RegionWith
import Derived.Test.YtliohoalackhiaaPTBitsK
import Derived.Maps.RangeWalk
import Derived.Lib.SlBytesConst
namespace Go.Proofs.Ytliohoalackhiaa.T
open Go.ChangeMaps hiding rd
open Go.RowKit Go.Maps Go.Proofs.YtliohoalackhiaaW.PrintWords Go.Proofs.YtliohoalackhiaaW.PrintLast Go.Proofs.YtliohoalackhiaaW.PrintMore
set_option linter.unusedVariables false
set_option linter.unusedSimpArgs false
def asIs (v : Value) : Option (DataW Value × List MemPlace) := some (.held v, [])
theorem ikey {t : Nat} {q : IntKind} (ht : Try.prog.underlying t = some (.int q)) (x : Int) (h : (Lit.int q x).wf = true) : keyOf Try.prog t (.int q x) = some (.int q x) := keyOf_int_mk ht h
def kindD : List (Int × Value) → DataW Value
  | [] => .map []
  | (k, v) :: t => (kindD t).put (.int .i64 k) (.held v)
theorem kindD_map : ∀ l, IsMap (kindD l)
  | [] => ⟨[], rfl⟩
  | (k, v) :: t => (kindD_map t).put _ _
theorem kindD_at (k : Int) (z : DataW Value) : ∀ l : List (Int × Value), (kindD l).atKey (.int .i64 k) z = match l.find? (fun p => p.1 == k) with | some p => .held p.2 | none => z
  | [] => rfl
  | (j, v) :: t => by
    by_cases h : j = k
    · subst h
      rw [kindD, atKey_put_same (kindD_map t) (by trivial)]
      simp
    · rw [kindD, atKey_put_other (fun e => h (by cases e; rfl)), kindD_at k z t]
      have : ((j, v).1 == k) = false := beq_eq_false_iff_ne.mpr h
      rw [List.find?_cons, this]
theorem kindD_has (k : Int) : ∀ l : List (Int × Value), Maps.has (kindD l) (.int .i64 k) = l.any (fun p => p.1 == k)
  | [] => rfl
  | (j, v) :: t => by
    by_cases h : j = k
    · subst h
      rw [kindD, has_put_same (kindD_map t) (by trivial)]
      simp
    · rw [kindD, has_put_other (fun e => h (by cases e; rfl)), kindD_has k t]
      have : ((j, v).1 == k) = false := beq_eq_false_iff_ne.mpr h
      rw [List.any_cons, this]; rfl
def Soft (w : World) (k : Nat) : Prop := ∃ cs t, w.heap[k]? = some (.cells cs t (0, 0)) ∧ (t = 5 ∨ t = 22 ∨ t = 3)
theorem Soft.lt {w : World} {k : Nat} (h : Soft w k) : k < w.heap.size := by
  obtain ⟨cs, t, h, _⟩ := h
  exact blk_lt h
theorem Soft.step {w w' : World} {k : Nat} (h : Soft w k) (hm : w'.heap[k]? = w.heap[k]?) : Soft w' k := by
  obtain ⟨cs, t, h, ht⟩ := h
  exact ⟨cs, t, hm.trans h, ht⟩
def SoftKept (w w' : World) : Prop := ∀ k, Soft w k → w'.heap[k]? = w.heap[k]?
def Rd (w : World) (v : Value) (xs : List Int) : Prop := ∃ A c, v = .slice A xs.length c ∧ xs.length ≤ c ∧ Kd.F (Kd.int .u8) w (Soft w) A xs.length xs
theorem Rd.step {w w' : World} {v : Value} {xs : List Int} (h : Rd w v xs) (hm : SoftKept w w') : Rd w' v xs := by
  obtain ⟨A, c, e, hl, hF⟩ := h
  exact ⟨A, c, e, hl, Kd.F_mono (Kd.F_step (Kd.F_bound hF) (fun k hk _ => hm k hk.1)) (fun k hk => hk.1.step (hm k hk.1))⟩
theorem Rd.nil (w : World) : Rd w (.slice none 0 0) [] := ⟨none, 0, rfl, Nat.le_refl _, Kd.F_nil _ _ _⟩
theorem Rd.of_R {w : World} {base : Nat} {ok : Nat → Prop} {v : Value} {xs : List Int} (h : Kd.R (Kd.int .u8) 5 w base ok v xs) : Rd w v xs := by
  obtain ⟨A, c, rfl⟩ := Kd.R_slice h
  refine ⟨A, c, rfl, (Kd.R_reads' h).2.1, Kd.F_mono (Kd.R_F (Kd.R_bound h)) (fun k hk => ?_)⟩
  obtain ⟨_, _, _, q, hq, cells, hc⟩ := hk
  have : q = 5 := by simpa [Kd.int, Kd.scalar] using hq
  exact ⟨cells, q, hc, .inl this⟩
theorem Rd.reads {w : World} {v : Value} {xs : List Int} (h : Rd w v xs) : ∃ A c, v = .slice A xs.length c ∧ xs.length ≤ c ∧ Kd.C (Kd.int .u8) w A xs.length xs := by
  obtain ⟨A, c, e, hl, hF⟩ := h
  exact ⟨A, c, e, hl, Kd.F_now hF⟩
inductive All2 {α β : Type} (R : α → β → Prop) : List α → List β → Prop where
  | nil : All2 R [] []
  | cons {a : α} {b : β} {l : List α} {m : List β} (h : R a b) (t : All2 R l m) : All2 R (a :: l) (b :: m)
theorem All2.length {α β : Type} {R : α → β → Prop} {l : List α} {m : List β} (h : All2 R l m) : l.length = m.length := by
  induction h with
  | nil => rfl
  | cons h t ih => simp [ih]
theorem All2.append {α β : Type} {R : α → β → Prop} {l l' : List α} {m m' : List β} (h : All2 R l m) (h' : All2 R l' m') : All2 R (l ++ l') (m ++ m') := by
  induction h with
  | nil => exact h'
  | cons h t ih => exact .cons h ih
abbrev Hist := List (Int × List Int)
def MapIs (w : World) (m : Nat) (H : Hist) : Prop := ∃ vals, w.ownsMap Try.prog 3 asIs m H.length (kindD vals) ∧ All2 (fun p q => p.1 = q.1 ∧ Rd w p.2 q.2) vals H ∧ ∀ p ∈ H, 0 ≤ p.1 ∧ p.1 < 512
theorem ownsMap_step {H : Type} {P : Program} {k : TypeId} {R : Value → Option (DataW H × List MemPlace)} {w w' : World} {b n : Nat} {D : DataW H} (h : w.ownsMap P k R b n D) (hm : w'.heap[b]? = w.heap[b]?) : w'.ownsMap P k R b n D := by
  obtain ⟨es, clock, hb, F, hs, hD⟩ := h
  exact ⟨es, clock, hm.trans hb, F, hs, hD⟩
theorem forall2_imp {α β : Type} {R S : α → β → Prop} (hi : ∀ a b, R a b → S a b) : ∀ {l : List α} {m : List β}, All2 R l m → All2 S l m
  | _, _, .nil => .nil
  | _, _, .cons h t => .cons (hi _ _ h) (forall2_imp hi t)
theorem MapIs.step {w w' : World} {m : Nat} {H : Hist} (h : MapIs w m H) (hs : SoftKept w w') (hm : w'.heap[m]? = w.heap[m]?) : MapIs w' m H := by
  obtain ⟨vals, ho, hv, hb⟩ := h
  exact ⟨vals, ownsMap_step ho hm, forall2_imp (fun _ _ h => ⟨h.1, h.2.step hs⟩) hv, hb⟩
theorem MapIs.lt {w : World} {m : Nat} {H : Hist} (h : MapIs w m H) : m < w.heap.size := by
  obtain ⟨_, ho, _⟩ := h
  exact ho.lt
inductive Step where
  | put (i : Int) (xs : List Int)
  | save (xs : List Int)
  | clear
def app : Step → Hist × List Int → Hist × List Int
  | .put i xs, A => ((i, xs) :: A.1, A.2)
  | .save xs, A => (A.1, xs)
  | .clear, _ => ([], [])
def IsStep (w : World) (f : Value) : Step → Prop
  | .put i xs => ∃ bb bi v, f = .func (.func 69) #[] #[.pointer (some ⟨bb, 0, none⟩), .pointer (some ⟨bi, 0, none⟩)] ∧ w.heap[bi]? = some (.cells #[.int .i64 i] 3 (0, 0)) ∧ w.heap[bb]? = some (.cells #[v] 22 (0, 0)) ∧ Rd w v xs ∧ 0 ≤ i ∧ i < 512
  | .save xs => ∃ bb v, f = .func (.func 108) #[] #[.pointer (some ⟨bb, 0, none⟩)] ∧ w.heap[bb]? = some (.cells #[v] 22 (0, 0)) ∧ Rd w v xs
  | .clear => f = .func (.func 74) #[] #[]
theorem IsStep.step {w w' : World} {f : Value} {s : Step} (h : IsStep w f s) (hs : SoftKept w w') : IsStep w' f s := by
  cases s with
  | put i xs =>
    obtain ⟨bb, bi, v, e, h1, h2, h3, h4⟩ := h
    exact ⟨bb, bi, v, e, (hs bi ⟨_, _, h1, .inr (.inr rfl)⟩).trans h1, (hs bb ⟨_, _, h2, .inr (.inl rfl)⟩).trans h2, h3.step hs, h4⟩
  | save xs =>
    obtain ⟨bb, v, e, h2, h3⟩ := h
    exact ⟨bb, v, e, (hs bb ⟨_, _, h2, .inr (.inl rfl)⟩).trans h2, h3.step hs⟩
  | clear => exact h
def Loose (w : World) (base : Nat) (lo : Value) (steps : List Step) : Prop := ∃ fs : List Value, (Kd.raw 1).R 119 w base (fun _ => True) lo (fs.map fun f => [f]) ∧ All2 (IsStep w) fs steps
theorem Loose.step {w w' : World} {base : Nat} {lo : Value} {steps : List Step} (h : Loose w base lo steps) (hs : SoftKept w w') (hl : ∀ k, lo.ownBlock = some k → w'.heap[k]? = w.heap[k]?) : Loose w' base lo steps := by
  obtain ⟨fs, hR, hf⟩ := h
  exact ⟨fs, Kd.R_mono (Kd.R_step (Kd.R_tight rfl hR) (fun k hk _ => hl k hk.symm)) (fun _ _ => trivial), forall2_imp (fun _ _ h => h.step hs) hf⟩
structure Sto (w : World) (base g m1 m2 : Nat) (lo : Value) (A1 A2 : Hist × List Int) (steps : List Step) : Prop where
  hg : ∃ t1 t2, w.heap[g]? = some (.cells #[.map (some m1), t1, .map (some m2), t2, lo] 112 (0, 0)) ∧ Rd w t1 A1.2 ∧ Rd w t2 A2.2
  h1 : MapIs w m1 A1.1
  h2 : MapIs w m2 A2.1
  ne : m1 ≠ m2
  bg : base ≤ g
  b1 : base ≤ m1
  b2 : base ≤ m2
  hl : Loose w base lo steps
def Own (g m1 m2 : Nat) (lo : Value) (k : Nat) : Prop := k = g ∨ k = m1 ∨ k = m2 ∨ lo.ownBlock = some k
theorem Sto.step {w w' : World} {base g m1 m2 : Nat} {lo : Value} {A1 A2 : Hist × List Int} {steps : List Step} (h : Sto w base g m1 m2 lo A1 A2 steps) (hs : SoftKept w w') (ho : ∀ k, Own g m1 m2 lo k → w'.heap[k]? = w.heap[k]?) : Sto w' base g m1 m2 lo A1 A2 steps := by
  obtain ⟨⟨t1, t2, hg, r1, r2⟩, h1, h2, ne, bg, b1, b2, hl⟩ := h
  exact ⟨⟨t1, t2, (ho g (.inl rfl)).trans hg, r1.step hs, r2.step hs⟩, h1.step hs (ho m1 (.inr (.inl rfl))), h2.step hs (ho m2 (.inr (.inr (.inl rfl)))), ne, bg, b1, b2, hl.step hs (fun k hk => ho k (.inr (.inr (.inr hk))))⟩
theorem softKept_below {w w' : World} (hb : Below w.heap.size w w') : SoftKept w w' := fun k hk => hb.block k hk.lt
theorem Sto.lt {w : World} {base g m1 m2 : Nat} {lo : Value} {A1 A2 : Hist × List Int} {steps : List Step} (h : Sto w base g m1 m2 lo A1 A2 steps) {k : Nat} (hk : Own g m1 m2 lo k) : k < w.heap.size := by
  obtain ⟨⟨t1, t2, hg, r1, r2⟩, h1, h2, ne, bg, b1, b2, fs, hR, hl⟩ := h
  rcases hk with rfl | rfl | rfl | hk
  · exact blk_lt hg
  · exact h1.lt
  · exact h2.lt
  · exact Kd.R_lt hR k hk
theorem Sto.base {w : World} {base g m1 m2 : Nat} {lo : Value} {A1 A2 : Hist × List Int} {steps : List Step} (h : Sto w base g m1 m2 lo A1 A2 steps) {k : Nat} (hk : Own g m1 m2 lo k) : base ≤ k := by
  obtain ⟨⟨t1, t2, hg, r1, r2⟩, h1, h2, ne, bg, b1, b2, fs, hR, hl⟩ := h
  rcases hk with rfl | rfl | rfl | hk
  · exact bg
  · exact b1
  · exact b2
  · exact Kd.R_base hR k hk
theorem Sto.below {w w' : World} {base g m1 m2 : Nat} {lo : Value} {A1 A2 : Hist × List Int} {steps : List Step} (h : Sto w base g m1 m2 lo A1 A2 steps) (hb : Below w.heap.size w w') : Sto w' base g m1 m2 lo A1 A2 steps :=
  h.step (softKept_below hb) (fun k hk => hb.block k (h.lt hk))
theorem MapIs.hard {w : World} {m : Nat} {H : Hist} (h : MapIs w m H) : ¬ Soft w m := by
  obtain ⟨_, ⟨es, clock, hb, _⟩, _⟩ := h
  rintro ⟨cs, t, hc, _⟩
  rw [hb] at hc
  cases hc
theorem Loose.hard {w : World} {base : Nat} {lo : Value} {steps : List Step} (h : Loose w base lo steps) {k : Nat} (hk : lo.ownBlock = some k) : ¬ Soft w k := by
  obtain ⟨fs, hR, _⟩ := h
  obtain ⟨cells, hc⟩ := Kd.R_typed hR k hk
  rintro ⟨cs, t, hc2, ht⟩
  rw [hc] at hc2
  injection hc2 with hc2
  injection hc2 with _ e _
  subst e
  revert ht; decide
structure Mv (w w' : World) (S : Nat → Prop) : Prop where
  b : Below 0 w w'
  k : Kept w w' S
theorem Mv.refl (w : World) (S : Nat → Prop) : Mv w w S := ⟨Below.refl _ _, Kept.refl _ _⟩
theorem Mv.of_below {w w' : World} (h : Below w.heap.size w w') (S : Nat → Prop) : Mv w w' S := ⟨⟨h.os, h.tape, h.output, h.size, fun _ hk => by omega⟩, Kept.of_below h S⟩
theorem Mv.trans {w w1 w2 : World} {S S2 : Nat → Prop} (h : Mv w w1 S) (h2 : Mv w1 w2 S2) (hs : ∀ k, S2 k → S k ∨ w.heap.size ≤ k) : Mv w w2 S := ⟨h.b.trans h2.b, h.k.then_ h2.k hs⟩
theorem Mv.below {w w1 w2 : World} {S : Nat → Prop} (h : Mv w w1 S) (hb : Below w1.heap.size w1 w2) : Mv w w2 S := h.trans (Mv.of_below hb (fun _ => False)) (fun _ hk => hk.elim)
theorem Mv.mono {w w1 : World} {S S2 : Nat → Prop} (h : Mv w w1 S) (hs : ∀ k, S k → S2 k) : Mv w w1 S2 := ⟨h.b, h.k.mono hs⟩
theorem Mv.then_below {w0 w w1 : World} {base : Nat} {S : Nat → Prop} (h : Mv w w1 S) (hb : Below base w0 w) (hbase : base ≤ w.heap.size) (hs : ∀ k, S k → base ≤ k) : Below base w0 w1 :=
  hb.trans ⟨h.b.os, h.b.tape, h.b.output, h.b.size, fun k hk => h.k.2 k (by omega) (fun q => by have := hs k q; omega)⟩
end Go.Proofs.Ytliohoalackhiaa.T
namespace Go.Proofs.Ytliohoalackhiaa.T
open Go.ChangeMaps hiding rd
open Go.RowKit Go.Maps Go.Proofs.YtliohoalackhiaaW.PrintWords Go.Proofs.YtliohoalackhiaaW.PrintLast Go.Proofs.YtliohoalackhiaaW.PrintMore
set_option linter.unusedVariables false
set_option linter.unusedSimpArgs false
abbrev S4 (g : Nat) (a0 a1 a2 a3 : Value) (w : World) : Prop := w.cell? ⟨g, 0, none⟩ = some a0 ∧ w.cell? ⟨g, 1, none⟩ = some a1 ∧ w.cell? ⟨g, 2, none⟩ = some a2 ∧ w.cell? ⟨g, 3, none⟩ = some a3
theorem cells4 {w : World} {g : Nat} {t : TypeId} {a0 a1 a2 a3 : Value} (h : w.heap[g]? = some (.cells #[a0, a1, a2, a3] t)) : S4 g a0 a1 a2 a3 w := ⟨(blk_cell h 0).trans rfl, (blk_cell h 1).trans rfl, (blk_cell h 2).trans rfl, (blk_cell h 3).trans rfl⟩
abbrev S5 (g : Nat) (a0 a1 a2 a3 a4 : Value) (w : World) : Prop := w.cell? ⟨g, 0, none⟩ = some a0 ∧ w.cell? ⟨g, 1, none⟩ = some a1 ∧ w.cell? ⟨g, 2, none⟩ = some a2 ∧ w.cell? ⟨g, 3, none⟩ = some a3 ∧ w.cell? ⟨g, 4, none⟩ = some a4
theorem cells5 {w : World} {g : Nat} {t : TypeId} {a0 a1 a2 a3 a4 : Value} (h : w.heap[g]? = some (.cells #[a0, a1, a2, a3, a4] t)) : S5 g a0 a1 a2 a3 a4 w := ⟨(blk_cell h 0).trans rfl, (blk_cell h 1).trans rfl, (blk_cell h 2).trans rfl, (blk_cell h 3).trans rfl, (blk_cell h 4).trans rfl⟩
abbrev S7 (g : Nat) (a0 a1 a2 a3 a4 a5 a6 : Value) (w : World) : Prop := w.cell? ⟨g, 0, none⟩ = some a0 ∧ w.cell? ⟨g, 1, none⟩ = some a1 ∧ w.cell? ⟨g, 2, none⟩ = some a2 ∧ w.cell? ⟨g, 3, none⟩ = some a3 ∧ w.cell? ⟨g, 4, none⟩ = some a4 ∧ w.cell? ⟨g, 5, none⟩ = some a5 ∧ w.cell? ⟨g, 6, none⟩ = some a6
theorem cells7 {w : World} {g : Nat} {t : TypeId} {a0 a1 a2 a3 a4 a5 a6 : Value} (h : w.heap[g]? = some (.cells #[a0, a1, a2, a3, a4, a5, a6] t)) : S7 g a0 a1 a2 a3 a4 a5 a6 w := ⟨(blk_cell h 0).trans rfl, (blk_cell h 1).trans rfl, (blk_cell h 2).trans rfl, (blk_cell h 3).trans rfl, (blk_cell h 4).trans rfl, (blk_cell h 5).trans rfl, (blk_cell h 6).trans rfl⟩
abbrev F7 (g : Nat) (w : World) : Prop := w.frozen? ⟨g, 0, none⟩ = false ∧ w.frozen? ⟨g, 1, none⟩ = false ∧ w.frozen? ⟨g, 2, none⟩ = false ∧ w.frozen? ⟨g, 3, none⟩ = false ∧ w.frozen? ⟨g, 4, none⟩ = false ∧ w.frozen? ⟨g, 5, none⟩ = false ∧ w.frozen? ⟨g, 6, none⟩ = false
theorem frozen7 {w : World} {g : Nat} {t : TypeId} {cs : Array Value} (h : w.heap[g]? = some (.cells cs t)) : F7 g w := ⟨blk_frozen h 0, blk_frozen h 1, blk_frozen h 2, blk_frozen h 3, blk_frozen h 4, blk_frozen h 5, blk_frozen h 6⟩
abbrev S15 (g : Nat) (a0 a1 a2 a3 a4 a5 a6 a7 a8 a9 a10 a11 a12 a13 a14 : Value) (w : World) : Prop := w.cell? ⟨g, 0, none⟩ = some a0 ∧ w.cell? ⟨g, 1, none⟩ = some a1 ∧ w.cell? ⟨g, 2, none⟩ = some a2 ∧ w.cell? ⟨g, 3, none⟩ = some a3 ∧ w.cell? ⟨g, 4, none⟩ = some a4 ∧ w.cell? ⟨g, 5, none⟩ = some a5 ∧ w.cell? ⟨g, 6, none⟩ = some a6 ∧ w.cell? ⟨g, 7, none⟩ = some a7 ∧ w.cell? ⟨g, 8, none⟩ = some a8 ∧ w.cell? ⟨g, 9, none⟩ = some a9 ∧ w.cell? ⟨g, 10, none⟩ = some a10 ∧ w.cell? ⟨g, 11, none⟩ = some a11 ∧ w.cell? ⟨g, 12, none⟩ = some a12 ∧ w.cell? ⟨g, 13, none⟩ = some a13 ∧ w.cell? ⟨g, 14, none⟩ = some a14
theorem cells15 {w : World} {g : Nat} {t : TypeId} {a0 a1 a2 a3 a4 a5 a6 a7 a8 a9 a10 a11 a12 a13 a14 : Value} (h : w.heap[g]? = some (.cells #[a0, a1, a2, a3, a4, a5, a6, a7, a8, a9, a10, a11, a12, a13, a14] t)) : S15 g a0 a1 a2 a3 a4 a5 a6 a7 a8 a9 a10 a11 a12 a13 a14 w := ⟨(blk_cell h 0).trans rfl, (blk_cell h 1).trans rfl, (blk_cell h 2).trans rfl, (blk_cell h 3).trans rfl, (blk_cell h 4).trans rfl, (blk_cell h 5).trans rfl, (blk_cell h 6).trans rfl, (blk_cell h 7).trans rfl, (blk_cell h 8).trans rfl, (blk_cell h 9).trans rfl, (blk_cell h 10).trans rfl, (blk_cell h 11).trans rfl, (blk_cell h 12).trans rfl, (blk_cell h 13).trans rfl, (blk_cell h 14).trans rfl⟩
abbrev F15 (g : Nat) (w : World) : Prop := w.frozen? ⟨g, 0, none⟩ = false ∧ w.frozen? ⟨g, 1, none⟩ = false ∧ w.frozen? ⟨g, 2, none⟩ = false ∧ w.frozen? ⟨g, 3, none⟩ = false ∧ w.frozen? ⟨g, 4, none⟩ = false ∧ w.frozen? ⟨g, 5, none⟩ = false ∧ w.frozen? ⟨g, 6, none⟩ = false ∧ w.frozen? ⟨g, 7, none⟩ = false ∧ w.frozen? ⟨g, 8, none⟩ = false ∧ w.frozen? ⟨g, 9, none⟩ = false ∧ w.frozen? ⟨g, 10, none⟩ = false ∧ w.frozen? ⟨g, 11, none⟩ = false ∧ w.frozen? ⟨g, 12, none⟩ = false ∧ w.frozen? ⟨g, 13, none⟩ = false ∧ w.frozen? ⟨g, 14, none⟩ = false
theorem frozen15 {w : World} {g : Nat} {t : TypeId} {cs : Array Value} (h : w.heap[g]? = some (.cells cs t)) : F15 g w := ⟨blk_frozen h 0, blk_frozen h 1, blk_frozen h 2, blk_frozen h 3, blk_frozen h 4, blk_frozen h 5, blk_frozen h 6, blk_frozen h 7, blk_frozen h 8, blk_frozen h 9, blk_frozen h 10, blk_frozen h 11, blk_frozen h 12, blk_frozen h 13, blk_frozen h 14⟩
abbrev z15 : Array Value := #[.slice none 0 0, .slice none 0 0, .bool false, .int .u64 0, .slice none 0 0, .int .u32 0, .slice none 0 0, .slice none 0 0, .slice none 0 0, .bool false, .int .u64 0, .slice none 0 0, .int .u32 0, .slice none 0 0, .slice none 0 0]
end Go.Proofs.Ytliohoalackhiaa.T
namespace Go.Proofs.Ytliohoalackhiaa.T
open Go.ChangeMaps hiding rd
open Go.RowKit Go.Maps Go.Proofs.YtliohoalackhiaaW.PrintWords Go.Proofs.YtliohoalackhiaaW.PrintLast Go.Proofs.YtliohoalackhiaaW.PrintMore
set_option linter.unusedVariables false
set_option linter.unusedSimpArgs false
theorem raw_made {sz e : Nat} {w : World} {base : Nat} {v : Value} {xs : List (List Value)} {inner : List Value} (h : w.ownsRow base e sz v xs.length inner) (hr : Reps (fun x cs => cs = x ∧ cs.length = sz ∧ ∀ u ∈ cs, u.oneCell' = true) sz xs inner) : Kd.R (Kd.raw sz) e w base (fun _ => True) v xs :=
  ⟨fun _ _ => trivial, inner, h, hr⟩
theorem raw_ones {sz : Nat} {xs : List (List Value)} {inner : List Value} (h0 : 0 < sz) (hr : Reps (fun x cs => cs = x ∧ cs.length = sz ∧ ∀ u ∈ cs, u.oneCell' = true) sz xs inner) : ∀ u ∈ inner, u.oneCell' = true := by
  intro u hu
  obtain ⟨q, hq, rfl⟩ := List.mem_iff_getElem.1 hu
  have hql : q / sz < xs.length := by
    rw [Nat.div_lt_iff_lt_mul h0, ← hr.1]
    exact hq
  refine (hr.2 (q / sz) _ (List.getElem?_eq_getElem hql)).2.2 _ ?_
  rw [List.mem_iff_getElem?]
  refine ⟨q % sz, ?_⟩
  rw [List.getElem?_take, if_pos (Nat.mod_lt _ h0), List.getElem?_drop, Nat.mul_comm, Nat.div_add_mod, List.getElem?_eq_getElem hq]
section
variable {P : Program} {ops : Array Oper} {rest : List Oper} {o : Oper} {a : Act} {Q : Exit → Act → World → Prop}
theorem raw_anew {sz : Nat} {w0 W : World} (base : Nat) (hgd : o.guard = none) (s x : Operand) (t e : TypeId) (z : Value) (bytes : Nat)
    (ho : o.op = .call { callee := .builtin .append, args := #[s, x], argTypes := #[t, t] })
    (ht : P.underlying t = some (.slice e)) (hinfo : (P.info? e).map (fun i => (i.zero, i.size, i.bytes)) = some (some z, sz, bytes)) (hz : z.cells.size = sz) (hs0 : 0 < sz) (hb0 : 0 < bytes)
    (ys : List (List Value)) (A : Option Addr) (c : Nat) (hs : a.eval s = .slice none 0 0) (hx : a.eval x = .slice A ys.length c) (HR : Kd.C (Kd.raw sz) W A ys.length ys)
    (HB : Below base w0 W) (hbase : base ≤ W.heap.size) (hl : (ys.length + ys.length / 4 + 192) * bytes ≤ 281474976710656)
    (h : ∀ v1 w1, Kd.R (Kd.raw sz) e w1 base (fun _ => True) v1 ys → Below base w0 w1 → W.grownBy w1 none → wpList P ops Q rest (a.put o.dst v1) w1) :
    wpList P ops Q (o :: rest) a W := by
  rcases Nat.eq_zero_or_pos ys.length with h0 | h0
  · obtain rfl : ys = [] := List.eq_nil_of_length_eq_zero h0
    exact Kd.R_append_rows (Kd.raw sz) base hgd s x t e z bytes ho ht hinfo hz hs0 hb0 (.slice none 0 0) ([] : List (List Value)) [] A 0 c (fun _ => True) (fun _ => False) hs hx (Kd.R_nil _ _ _ _ _) HR (fun _ _ h => h) (fun _ h => h.elim) (fun _ _ => trivial) HB hbase (by simp) (fun v1 w1 q1 q2 q3 _ => h v1 w1 q1 q2 q3)
  · obtain ⟨i0, hi, hzz⟩ := Option.map_eq_some_iff.1 hinfo
    simp only [Prod.mk.injEq] at hzz
    obtain ⟨hz0, hz1, hz2⟩ := hzz
    obtain ⟨ad, rfl, _⟩ := HR.2.2 h0
    obtain ⟨news, hnr, hnc⟩ := ReadsRow.inner_ HR
    have hm : ys.length ≤ maxLen := by
      have h1 : ys.length * 1 ≤ (ys.length + ys.length / 4 + 192) * bytes := Nat.mul_le_mul (by omega) hb0
      simp only [maxLen]
      omega
    refine wpList_append_own_wide W hgd s x t ho base e i0 z sz bytes ht hi hz0 hz1 hz2 hz hs0 (.slice none 0 0) 0 [] hs (World.ownsRow_nil W base e sz) ad ys.length c news hx hnr.1 hnc (raw_ones hs0 hnr) (by omega) (by simpa using hl) hbase ?_
    intro v1 w1 q1 q2 _
    rw [Nat.zero_add, List.nil_append] at q1
    exact h v1 w1 (raw_made q1 hnr) (HB.grown q2 hbase (fun k hk => by simp [Value.ownBlock] at hk)) q2
theorem raw_more {sz : Nat} {w0 W : World} (base : Nat) (hgd : o.guard = none) (s x : Operand) (t e : TypeId) (z : Value) (bytes : Nat)
    (ho : o.op = .call { callee := .builtin .append, args := #[s, x], argTypes := #[t, t] })
    (ht : P.underlying t = some (.slice e)) (hinfo : (P.info? e).map (fun i => (i.zero, i.size, i.bytes)) = some (some z, sz, bytes)) (hz : z.cells.size = sz) (hs0 : 0 < sz) (hb0 : 0 < bytes)
    (v : Value) (ys : List (List Value)) (p : List Value) (hs : a.eval s = v) (hx : a.eval x = .slice (some ⟨W.heap.size, 0, none⟩) 1 1) (hp : p.length = sz ∧ ∀ u ∈ p, u.oneCell' = true)
    (HO : Kd.R (Kd.raw sz) e W base (fun _ => True) v ys) (HB : Below base w0 W) (hbase : base ≤ W.heap.size) (hl : (ys.length + 1 + (ys.length + 1) / 4 + 192) * bytes ≤ 281474976710656)
    (h : ∀ v1 w1, Kd.R (Kd.raw sz) e w1 base (fun _ => True) v1 (ys ++ [p]) → Below base w0 w1 → W.grownBy w1 v.ownBlock → wpList P ops Q rest (a.put o.dst v1) w1) :
    wpList P ops Q (o :: rest) a (W.alloc (.cells p.toArray e)) := by
  obtain ⟨i0, hi, hzz⟩ := Option.map_eq_some_iff.1 hinfo
  simp only [Prod.mk.injEq] at hzz
  obtain ⟨hz0, hz1, hz2⟩ := hzz
  obtain ⟨_, inner, hown, hr⟩ := HO
  have hm : ys.length + 1 ≤ maxLen := by
    have h1 : (ys.length + 1) * 1 ≤ (ys.length + 1 + (ys.length + 1) / 4 + 192) * bytes := Nat.mul_le_mul (by omega) hb0
    simp only [maxLen]
    omega
  have hr' : Reps (fun x cs => cs = x ∧ cs.length = sz ∧ ∀ u ∈ cs, u.oneCell' = true) sz ys inner := hr
  refine wpList_append_own_wide (W.alloc (.cells p.toArray e)) hgd s x t ho base e i0 z sz bytes ht hi hz0 hz1 hz2 hz hs0 v ys.length inner hs (hown.alloc _) ⟨W.heap.size, 0, none⟩ 1 1 p hx (by rw [hp.1]; simp)
    (by simpa using World.news_of_block (cs := p.toArray) (t := e) (fr := (0, 0)) (heap_alloc_new W (.cells p.toArray e))) hp.2 hm hl (by simp; omega) ?_
  intro v1 w1 q1 q2 _
  refine h v1 w1 (raw_made (by rw [List.length_append, List.length_singleton]; exact q1) (hr'.snoc ⟨rfl, hp.1, hp.2⟩ hp.1)) ((HB.alloc hbase _).grown q2 (by simp; omega) (own_base hown)) (World.grownBy.trans (World.grownBy_alloc W _ _) q2)
end
end Go.Proofs.Ytliohoalackhiaa.T
namespace Go.Proofs.Ytliohoalackhiaa.T
open Go.ChangeMaps hiding rd
open Go.RowKit Go.Maps Go.Proofs.YtliohoalackhiaaW.PrintWords Go.Proofs.YtliohoalackhiaaW.PrintLast Go.Proofs.YtliohoalackhiaaW.PrintMore
set_option linter.unusedVariables false
set_option linter.unusedSimpArgs false
theorem mapIs_new (w : World) : MapIs (w.alloc (.map #[] 0)) w.heap.size [] := ⟨[], World.ownsMap_made w Try.prog 3 asIs, .nil, fun p hp => by cases hp⟩
theorem loose_nil (w : World) (base : Nat) : Loose w base (.slice none 0 0) [] := ⟨[], Kd.R_nil _ _ _ _ _, .nil⟩
set_option maxRecDepth 100000 in
set_option maxHeartbeats 4000000 in
theorem keep_new (w : World) : Calls Try.prog 15 #[] w fun e w' => ∃ g m1 m2, e = .returned (.pointer (some ⟨g, 0, none⟩)) ∧ Sto w' w.heap.size g m1 m2 (.slice none 0 0) ([], []) ([], []) [] ∧ Below w.heap.size w w' := by
  have hmm := @run_makeMap Try.prog
  go_enter Try.func15, Try.ntmps15
  go_wp2
  go_ret
  have b1 : Below w.heap.size w (w.alloc (.map #[] 0)) := below_alloc (Below.refl _ _) _
  have b2 : Below (w.alloc (.map #[] 0)).heap.size (w.alloc (.map #[] 0)) ((w.alloc (.map #[] 0)).alloc (.map #[] 0)) := below_alloc (Below.refl _ _) _
  have e1 : (w.alloc (.map #[] 0)).heap.size = w.heap.size + 1 := World.size_alloc _ _
  have e2 : ((w.alloc (.map #[] 0)).alloc (.map #[] 0)).heap.size = w.heap.size + 1 + 1 := by rw [World.size_alloc, e1]
  have m1 := mapIs_new w
  have m2 := mapIs_new (w.alloc (.map #[] 0))
  rw [e1] at m2
  have hb3 := blk_new ((w.alloc (.map #[] 0)).alloc (.map #[] 0)) (.cells #[.map (some w.heap.size), .slice none 0 0, .map (some (w.heap.size + 1)), .slice none 0 0, .slice none 0 0] 112)
  rw [e2] at hb3
  have b3 : Below ((w.alloc (.map #[] 0)).alloc (.map #[] 0)).heap.size ((w.alloc (.map #[] 0)).alloc (.map #[] 0)) (((w.alloc (.map #[] 0)).alloc (.map #[] 0)).alloc (.cells #[.map (some w.heap.size), .slice none 0 0, .map (some (w.heap.size + 1)), .slice none 0 0, .slice none 0 0] 112)) := below_alloc (Below.refl _ _) _
  have m1' := (m1.step (softKept_below b2) (b2.block _ (by rw [e1]; omega))).step (softKept_below b3) (b3.block _ (by rw [e2]; omega))
  have m2' := m2.step (softKept_below b3) (b3.block _ (by rw [e2]; omega))
  exact ⟨_, _, _, rfl, ⟨⟨_, _, hb3, Rd.nil _, Rd.nil _⟩, m1', m2', by omega, by omega, Nat.le_refl _, by omega, loose_nil _ _⟩, below_step (below_step b1 b2) b3⟩
theorem wf_i64 {i : Int} (h : -9223372036854775808 ≤ i ∧ i ≤ 9223372036854775807) : (Lit.int .i64 i).wf = true := by
  have := RowKit.wrap64_wf i
  rwa [show RowKit.wrap64 i = i from IntWalk.wrap64_in _ h] at this
set_option maxRecDepth 100000 in
set_option maxHeartbeats 4000000 in
theorem put_step (w : World) (g m bb bi : Nat) (v t : Value) (c0 c1 c4 : Value) (i : Int) (H : Hist) (xs : List Int) (hg : w.heap[g]? = some (.cells #[c0, c1, .map (some m), t, c4] 112 (0, 0)))
    (hm : MapIs w m H) (hn : H.length < 1599400000000) (hi : w.heap[bi]? = some (.cells #[.int .i64 i] 3 (0, 0))) (hb : w.heap[bb]? = some (.cells #[v] 22 (0, 0))) (hr : Rd w v xs) (hi0 : 0 ≤ i ∧ i < 512) :
    Calls Try.prog 69 #[.pointer (some ⟨g, 2, none⟩), .pointer (some ⟨bb, 0, none⟩), .pointer (some ⟨bi, 0, none⟩)] w fun e w' => (∃ v, e = .returned v) ∧ MapIs w' m ((i, xs) :: H) ∧ w.grownBy w' (some m) := by
  have d0 : w.cell? ⟨g, 2, none⟩ = some (.map (some m)) := (blk_cell hg 2).trans rfl
  have d1 : w.cell? ⟨bi, 0, none⟩ = some (.int .i64 i) := (blk_cell hi 0).trans rfl
  have d2 : w.cell? ⟨bb, 0, none⟩ = some v := (blk_cell hb 0).trans rfl
  obtain ⟨A, c, e, hl, hC⟩ := hr.reads
  have HR := Aside0.mk hr
  have HM := Aside0.mk hm
  clear hg hm hi hb hr hC
  subst e
  go_enter Try.func69, Try.ntmps69
  go_wp2
  go_still_tail 6, (by kernel_rfl)
  change wpList _ _ _ _ _ w.drew
  obtain ⟨vals, ho, hv, hbd⟩ := HM.out
  have hlt : m < w.heap.size := ho.lt
  have ho' : w.drew.ownsMap Try.prog 3 asIs m H.length (kindD vals) := ho
  have hml : H.length < maxLen := by unfold maxLen; omega
  have law : Keyed Try.prog 3 := int_keyed Try.underlying3
  refine wpList_mapUpdate_own _ rfl _ _ _ 107 rfl 3 22 law Try.underlying107 asIs m _ _ rfl ho' hml _ _ _ rfl rfl (ikey Try.underlying3 i (wf_i64 (by omega))) _ [] rfl ?_
  intro w1 h1 g1
  have HG := Aside0.mk (show w.grownBy w1 (some m) from ⟨g1.os, g1.tape, g1.output, g1.size, g1.block⟩)
  have hmh := HM.out.hard
  have hsk : SoftKept w w1 := fun k hk => HG.out.block k hk.lt (fun e => by injection e with e; subst e; exact hmh hk)
  have HM1 : Aside0 (MapIs w1 m ((i, xs) :: H)) := ⟨⟨(i, .slice A xs.length c) :: vals, h1, .cons ⟨rfl, HR.out.step hsk⟩ (forall2_imp (fun _ _ h => ⟨h.1, h.2.step hsk⟩) hv), fun p hp => by
    rcases List.mem_cons.1 hp with rfl | hp
    · exact hi0
    · exact hbd p hp⟩⟩
  clear ho ho' hv hbd h1 g1 hmh hsk
  go_wp2
  go_end0
  exact ⟨⟨_, rfl⟩, HM1.out, HG.out⟩
theorem save_step (w : World) (g m bb : Nat) (v t : Value) (c0 c1 c4 : Value) (xs : List Int) (hg : w.heap[g]? = some (.cells #[c0, c1, .map (some m), t, c4] 112 (0, 0)))
    (hb : w.heap[bb]? = some (.cells #[v] 22 (0, 0))) (hr : Rd w v xs) :
    Calls Try.prog 108 #[.pointer (some ⟨g, 2, none⟩), .pointer (some ⟨bb, 0, none⟩)] w fun e w' => (∃ v, e = .returned v) ∧ w' = w.setCell ⟨g, 3, none⟩ v := by
  have d2 : w.cell? ⟨bb, 0, none⟩ = some v := (blk_cell hb 0).trans rfl
  have d3 : w.cell? ⟨g, 3, none⟩ = some t := (blk_cell hg 3).trans rfl
  have f3 : w.frozen? ⟨g, 3, none⟩ = false := blk_frozen hg 3
  obtain ⟨A, c, e, hl, hC⟩ := hr.reads
  clear hg hb hr hC
  subst e
  go_enter Try.func108, Try.ntmps108
  go_wp2
  go_end0
  exact ⟨⟨_, rfl⟩, rfl⟩
theorem clear_step (w : World) (g m : Nat) (t : Value) (c0 c1 c4 : Value) (hg : w.heap[g]? = some (.cells #[c0, c1, .map (some m), t, c4] 112 (0, 0))) :
    Calls Try.prog 74 #[.pointer (some ⟨g, 2, none⟩)] w fun e w' => (∃ v, e = .returned v) ∧ w' = ((w.setCell ⟨g, 2, none⟩ (.map (some w.heap.size))).setCell ⟨g, 3, none⟩ (.slice none 0 0)).alloc (.map #[] 0) := by
  have hmm := @run_makeMap Try.prog
  have hlt := blk_lt hg
  have d2 : w.cell? ⟨g, 2, none⟩ = some (.map (some m)) := (blk_cell hg 2).trans rfl
  have d3 : w.cell? ⟨g, 3, none⟩ = some t := (blk_cell hg 3).trans rfl
  have f2 : w.frozen? ⟨g, 2, none⟩ = false := blk_frozen hg 2
  have f3 : w.frozen? ⟨g, 3, none⟩ = false := blk_frozen hg 3
  clear hg
  go_enter Try.func74, Try.ntmps74
  go_wp2
  go_end0
  exact ⟨⟨_, rfl⟩, rfl⟩
theorem sto_soft {w : World} {g : Nat} {cs : Array Value} (hg : w.heap[g]? = some (.cells cs 112 (0, 0))) : ¬ Soft w g := by
  rintro ⟨cs', t, hc, ht⟩
  rw [hg] at hc
  injection hc with hc
  injection hc with _ e _
  subst e
  revert ht; decide
theorem Sto.hard {w : World} {base g m1 m2 : Nat} {lo : Value} {A1 A2 : Hist × List Int} {steps : List Step} (h : Sto w base g m1 m2 lo A1 A2 steps) {k : Nat} (hk : Own g m1 m2 lo k) : ¬ Soft w k := by
  obtain ⟨⟨t1, t2, hg, r1, r2⟩, h1, h2, ne, bg, b1, b2, hl⟩ := h
  rcases hk with rfl | rfl | rfl | hk
  · exact sto_soft hg
  · exact h1.hard
  · exact h2.hard
  · exact hl.hard hk
theorem Sto.gl {w : World} {base g m1 m2 : Nat} {lo : Value} {A1 A2 : Hist × List Int} {steps : List Step} (h : Sto w base g m1 m2 lo A1 A2 steps) : m1 ≠ g ∧ m2 ≠ g ∧ lo.ownBlock ≠ some g ∧ lo.ownBlock ≠ some m1 ∧ lo.ownBlock ≠ some m2 := by
  obtain ⟨⟨t1, t2, hg, r1, r2⟩, ⟨v1, o1, _⟩, ⟨v2, o2, _⟩, ne, bg, b1, b2, fs, hR, hl⟩ := h
  obtain ⟨es1, c1, hb1, _⟩ := o1
  obtain ⟨es2, c2, hb2, _⟩ := o2
  refine ⟨fun e => ?_, fun e => ?_, fun e => ?_, fun e => ?_, fun e => ?_⟩
  · subst e; rw [hg] at hb1; cases hb1
  · subst e; rw [hg] at hb2; cases hb2
  · obtain ⟨cells, hc⟩ := Kd.R_typed hR _ e
    rw [hg] at hc
    injection hc with hc
    injection hc with _ e2 _
    revert e2; decide
  · obtain ⟨cells, hc⟩ := Kd.R_typed hR _ e
    rw [hb1] at hc; cases hc
  · obtain ⟨cells, hc⟩ := Kd.R_typed hR _ e
    rw [hb2] at hc; cases hc
theorem heap_set {w : World} {g k j : Nat} (u : Value) (h : k ≠ g) : (w.setCell ⟨g, j, none⟩ u).heap[k]? = w.heap[k]? := Below.heap_setCell w ⟨g, j, none⟩ u k h
theorem softKept_set {w : World} {g j : Nat} {cs : Array Value} (hg : w.heap[g]? = some (.cells cs 112 (0, 0))) (u : Value) : SoftKept w (w.setCell ⟨g, j, none⟩ u) := fun k hk => heap_set u (fun e => sto_soft hg (e ▸ hk))
theorem SoftKept.trans {w w1 w2 : World} (h : SoftKept w w1) (h2 : SoftKept w1 w2) : SoftKept w w2 := fun k hk => (h2 k (hk.step (h k hk))).trans (h k hk)
theorem mv_set (w : World) (g j : Nat) (u : Value) {S : Nat → Prop} (hS : S g) : Mv w (w.setCell ⟨g, j, none⟩ u) S :=
  ⟨⟨rfl, rfl, rfl, by simp [World.setCell], fun _ hk => by omega⟩, (Kept.refl w S).setCell (p := ⟨g, j, none⟩) (.inl hS) u⟩
theorem put_sto {w w' : World} {base g m1 m2 : Nat} {lo : Value} {A1 A2 : Hist × List Int} {steps : List Step} (h : Sto w base g m1 m2 lo A1 A2 steps) {H : Hist} (hm : MapIs w' m2 H) (hg : w.grownBy w' (some m2)) :
    Sto w' base g m1 m2 lo A1 (H, A2.2) steps ∧ Mv w w' (Own g m1 m2 lo) := by
  have hne := h.gl
  have hard := h.h2.hard
  have hkeep : ∀ k, k < w.heap.size → k ≠ m2 → w'.heap[k]? = w.heap[k]? := fun k hk hn => hg.block k hk (fun e => hn (by injection e))
  have hs : SoftKept w w' := fun k hk => hkeep k hk.lt (fun e => hard (e ▸ hk))
  have hlt := fun k hk => h.lt (k := k) hk
  obtain ⟨⟨t1, t2, hgc, r1, r2⟩, h1, h2, ne, bg, b1, b2, hl⟩ := h
  refine ⟨⟨⟨t1, t2, (hkeep g (hlt g (.inl rfl)) (Ne.symm hne.2.1)).trans hgc, r1.step hs, r2.step hs⟩, h1.step hs (hkeep m1 (hlt m1 (.inr (.inl rfl))) ne), hm, ne, bg, b1, b2, hl.step hs (fun k hk => hkeep k (hlt k (.inr (.inr (.inr hk)))) (fun e => hne.2.2.2.2 (e ▸ hk)))⟩, ⟨hg.os, hg.tape, hg.output, hg.size, fun _ hk => by omega⟩, hg.size, fun k hk hn => hkeep k hk (fun e => hn (.inr (.inr (.inl e))))⟩
theorem save_sto {w : World} {base g m1 m2 : Nat} {lo : Value} {A1 A2 : Hist × List Int} {steps : List Step} (h : Sto w base g m1 m2 lo A1 A2 steps) {v : Value} {xs : List Int} (hr : Rd w v xs) :
    Sto (w.setCell ⟨g, 3, none⟩ v) base g m1 m2 lo A1 (A2.1, xs) steps ∧ Mv w (w.setCell ⟨g, 3, none⟩ v) (Own g m1 m2 lo) := by
  have hne := h.gl
  obtain ⟨⟨t1, t2, hgc, r1, r2⟩, h1, h2, ne, bg, b1, b2, hl⟩ := h
  have hs := softKept_set (j := 3) hgc v
  refine ⟨⟨⟨t1, v, blk_put hgc 3 v rfl, r1.step hs, hr.step hs⟩, h1.step hs (heap_set v hne.1), h2.step hs (heap_set v hne.2.1), ne, bg, b1, b2, hl.step hs (fun k hk => heap_set v (fun e => hne.2.2.1 (e ▸ hk)))⟩, mv_set w g 3 v (.inl rfl)⟩
theorem clear_sto {w : World} {base g m1 m2 : Nat} {lo : Value} {A1 A2 : Hist × List Int} {steps : List Step} (h : Sto w base g m1 m2 lo A1 A2 steps) :
    Sto (((w.setCell ⟨g, 2, none⟩ (.map (some w.heap.size))).setCell ⟨g, 3, none⟩ (.slice none 0 0)).alloc (.map #[] 0)) base g m1 w.heap.size lo A1 ([], []) steps ∧
      Mv w (((w.setCell ⟨g, 2, none⟩ (.map (some w.heap.size))).setCell ⟨g, 3, none⟩ (.slice none 0 0)).alloc (.map #[] 0)) (Own g m1 m2 lo) := by
  have hne := h.gl
  have hlt := fun k hk => h.lt (k := k) hk
  obtain ⟨⟨t1, t2, hgc, r1, r2⟩, h1, h2, ne, bg, b1, b2, hl⟩ := h
  have hg1 := blk_put hgc 2 (.map (some w.heap.size)) rfl
  have hs1 := softKept_set (j := 2) hgc (.map (some w.heap.size))
  have hg2 := blk_put hg1 3 (.slice none 0 0) rfl
  have hs2 := hs1.trans (softKept_set (j := 3) hg1 (.slice none 0 0))
  have hsz : ((w.setCell ⟨g, 2, none⟩ (.map (some w.heap.size))).setCell ⟨g, 3, none⟩ (.slice none 0 0)).heap.size = w.heap.size := by simp [World.setCell]
  have hk2 : ∀ k, k ≠ g → ((w.setCell ⟨g, 2, none⟩ (.map (some w.heap.size))).setCell ⟨g, 3, none⟩ (.slice none 0 0)).heap[k]? = w.heap[k]? := fun k hk => (heap_set _ hk).trans (heap_set _ hk)
  have mv := (mv_set w g 2 (.map (some w.heap.size)) (S := Own g m1 m2 lo) (.inl rfl)).trans (mv_set (w.setCell ⟨g, 2, none⟩ (.map (some w.heap.size))) g 3 (.slice none 0 0) (S := Own g m1 m2 lo) (.inl rfl)) (fun k hk => .inl hk)
  generalize (w.setCell ⟨g, 2, none⟩ (.map (some w.heap.size))).setCell ⟨g, 3, none⟩ (.slice none 0 0) = w2 at hg2 hs2 hsz hk2 mv ⊢
  have hb : Below w2.heap.size w2 (w2.alloc (.map #[] 0)) := below_alloc (Below.refl _ _) _
  have hs3 := hs2.trans (softKept_below hb)
  have hk3 : ∀ k, k < w.heap.size → k ≠ g → (w2.alloc (.map #[] 0)).heap[k]? = w.heap[k]? := fun k hk hn => (hb.block k (by omega)).trans (hk2 k hn)
  have mN := mapIs_new w2
  rw [hsz] at mN
  refine ⟨⟨⟨t1, _, (hb.block g (by have := hlt g (.inl rfl); omega)).trans hg2, r1.step hs3, Rd.nil _⟩, h1.step hs3 (hk3 m1 (hlt m1 (.inr (.inl rfl))) hne.1), mN, by have := hlt m1 (.inr (.inl rfl)); omega, bg, b1, ?_, hl.step hs3 (fun k hk => hk3 k (hlt k (.inr (.inr (.inr hk)))) (fun e => hne.2.2.1 (e ▸ hk)))⟩, mv.below hb⟩
  have := hlt g (.inl rfl)
  omega
end Go.Proofs.Ytliohoalackhiaa.T
namespace Go.Proofs.Ytliohoalackhiaa.T
open Go.ChangeMaps hiding rd
open Go.RowKit Go.Maps Go.Proofs.YtliohoalackhiaaW.PrintWords Go.Proofs.YtliohoalackhiaaW.PrintLast Go.Proofs.YtliohoalackhiaaW.PrintMore
set_option linter.unusedVariables false
set_option linter.unusedSimpArgs false
theorem infoStep : (Try.prog.info? 119).map (fun i => (i.zero, i.size, i.bytes)) = some (some .nilFunc, 1, 8) := by kernel_rfl
theorem app_sto {W w2 : World} {base g m1 m2 : Nat} {lo v1 : Value} {A1 A2 : Hist × List Int} {steps : List Step} (h : Sto W base g m1 m2 lo A1 A2 steps) {f : Value} {s : Step} (hf : IsStep W f s) {fs : List Value} (hfs : All2 (IsStep W) fs steps)
    (hR : (Kd.raw 1).R 119 w2 base (fun _ => True) v1 ((fs.map fun f => [f]) ++ [[f]])) (hg : W.grownBy w2 lo.ownBlock) (hat : v1.ownBlock = lo.ownBlock ∨ ∃ b, v1.ownBlock = some b ∧ W.heap.size ≤ b) :
    Sto (w2.setCell ⟨g, 4, none⟩ v1) base g m1 m2 v1 A1 A2 (steps ++ [s]) ∧ Mv W (w2.setCell ⟨g, 4, none⟩ v1) (Own g m1 m2 lo) ∧ (∀ k, Own g m1 m2 v1 k → Own g m1 m2 lo k ∨ W.heap.size ≤ k) := by
  have hne := h.gl
  have hlt := fun k hk => h.lt (k := k) hk
  have hsoft : ∀ k, lo.ownBlock = some k → ¬ Soft W k := fun k hk => h.hl.hard hk
  obtain ⟨⟨t1, t2, hgc, r1, r2⟩, h1, h2, ne, bg, b1, b2, hl⟩ := h
  have hk2 : ∀ k, k < W.heap.size → lo.ownBlock ≠ some k → w2.heap[k]? = W.heap[k]? := fun k hk hn => hg.block k hk (fun e => hn e.symm)
  have hs2 : SoftKept W w2 := fun k hk => hk2 k hk.lt (fun e => hsoft k e hk)
  have hg2 : w2.heap[g]? = _ := (hk2 g (hlt g (.inl rfl)) hne.2.2.1).trans hgc
  have hs3 := hs2.trans (softKept_set (j := 4) hg2 v1)
  have hv1 : v1.ownBlock ≠ some g := by
    rcases hat with e | ⟨b, e, hb⟩
    · rw [e]; exact hne.2.2.1
    · rw [e]; intro e2; injection e2 with e2; have := hlt g (.inl rfl); omega
  have hm : ∀ k, k < W.heap.size → k ≠ g → lo.ownBlock ≠ some k → (w2.setCell ⟨g, 4, none⟩ v1).heap[k]? = W.heap[k]? := fun k hk h1 h2 => (heap_set v1 h1).trans (hk2 k hk h2)
  refine ⟨⟨⟨t1, t2, blk_put hg2 4 v1 rfl, r1.step hs3, r2.step hs3⟩, h1.step hs3 (hm m1 (hlt m1 (.inr (.inl rfl))) hne.1 hne.2.2.2.1), h2.step hs3 (hm m2 (hlt m2 (.inr (.inr (.inl rfl)))) hne.2.1 hne.2.2.2.2), ne, bg, b1, b2, ?_⟩, ⟨⟨hg.os, hg.tape, hg.output, by simpa [World.setCell] using hg.size, fun _ hk => by omega⟩, by simpa [World.setCell] using hg.size, fun k hk hn => hm k hk (fun e => hn (.inl e)) (fun e => hn (.inr (.inr (.inr e))))⟩, fun k hk => ?_⟩
  · refine ⟨fs ++ [f], ?_, (forall2_imp (fun _ _ h => h.step hs3) hfs).append (.cons (hf.step hs3) .nil)⟩
    rw [List.map_append]
    exact Kd.R_mono (Kd.R_step (Kd.R_tight rfl hR) (fun k hk _ => heap_set v1 (fun e => hv1 (e ▸ hk.symm)))) (fun _ _ => trivial)
  · rcases hk with hk | hk | hk | hk
    · exact .inl (.inl hk)
    · exact .inl (.inr (.inl hk))
    · exact .inl (.inr (.inr (.inl hk)))
    · rcases hat with e | ⟨b, e, hb⟩
      · exact .inl (.inr (.inr (.inr (e ▸ hk))))
      · rw [e] at hk; injection hk with hk; exact .inr (hk ▸ hb)
theorem Mv.soft {w w' : World} {base g m1 m2 : Nat} {lo : Value} {A1 A2 : Hist × List Int} {steps : List Step} (mv : Mv w w' (Own g m1 m2 lo)) (h : Sto w base g m1 m2 lo A1 A2 steps) : SoftKept w w' := fun k hk => mv.k.2 k hk.lt (fun q => h.hard q hk)
set_option maxRecDepth 100000 in
set_option maxHeartbeats 4000000 in
theorem keep_do (w : World) (base g m1 m2 : Nat) (lo : Value) (A1 A2 : Hist × List Int) (steps : List Step) (h : Sto w base g m1 m2 lo A1 A2 steps) (hbase : base ≤ w.heap.size) (f : Value) (s : Step) (hf : IsStep w f s) (hn : A2.1.length < 1599400000000) (hs : steps.length < 1599400000000) :
    Calls Try.prog 68 #[.pointer (some ⟨g, 0, none⟩), f] w fun e w' => (∃ v, e = .returned v) ∧ ∃ m2' lo', Sto w' base g m1 m2' lo' A1 (app s A2) (steps ++ [s]) ∧ Mv w w' (Own g m1 m2 lo) ∧ (∀ k, Own g m1 m2' lo' k → Own g m1 m2 lo k ∨ w.heap.size ≤ k) := by
  have HS := Aside0.mk h
  have HF := Aside0.mk hf
  cases s with
  | put i xs =>
    obtain ⟨bb, bi, v, rfl, hi, hb, hr, hi0⟩ := hf
    obtain ⟨⟨t1, t2, hgc, r1, r2⟩, h1, h2, ne, bg, b1, b2, hl⟩ := h
    have HC := Aside0.mk (put_step w g m2 bb bi v t2 (.map (some m1)) t1 lo i A2.1 xs hgc h2 hn hi hb hr hi0)
    clear hi hb hr hi0 hgc r1 r2 h1 h2 ne bg b1 b2 hl
    go_enter Try.func68, Try.ntmps68
    go_wp2_with fail
    refine HC.out.mono ?_
    rintro e w1 ⟨⟨rv, rfl⟩, hm, hg⟩
    obtain ⟨hS1, hV1⟩ := put_sto HS.out hm hg
    have hS1_ := hS1
    clear hm hg
    have HV1 := Aside0.mk hV1
    have HF1 := Aside0.mk (HF.out.step (hV1.soft HS.out))
    have hb1 : base ≤ w1.heap.size := Nat.le_trans hbase hV1.b.size
    obtain ⟨⟨u1, u2, hg1, q1, q2⟩, _, _, _, _, _, _, fs, hR, hfs⟩ := hS1
    have HS1 := Aside0.mk hS1_
    have HG1 := Aside0.mk hg1
    have HR := Aside0.mk hR
    have HFS := Aside0.mk hfs
    have hfl : fs.length = steps.length := hfs.length
    have d4 : w1.cell? ⟨g, 4, none⟩ = some lo := (blk_cell hg1 4).trans rfl
    have hlen : (fs.map fun f => [f]).length = fs.length := List.length_map _
    clear hV1 hS1_ hg1 q1 q2 hR hfs
    go_wp2_with (at_builtin; refine Kd.R_append (Kd.raw 1) (w0 := w1) base rfl (.tmp 13) (.tmp 15) 110 119 .nilFunc 8 rfl Try.underlying110 infoStep rfl (by decide) (by omega) lo (fs.map fun f => [f]) [(.func (.func 69) #[] #[.pointer (some ⟨bb, 0, none⟩), .pointer (some ⟨bi, 0, none⟩)])] [(.func (.func 69) #[] #[.pointer (some ⟨bb, 0, none⟩), .pointer (some ⟨bi, 0, none⟩)])] (fun _ => True) (fun _ => False) rfl rfl ⟨rfl, rfl, fun u hu => by rw [List.mem_singleton.1 hu]; rfl⟩ (fun _ hk => hk.elim) (fun _ _ => trivial) HR.out (Below.refl _ _) hb1 (by omega) ?_; intro v1 w2 ho hb hg2 hat; obtain ⟨Av, cv, ev⟩ := Kd.R_slice ho; generalize hnn_ : List.length _ = nn at ev; clear hnn_; subst ev; have HO := Aside0.mk ho; have HG2 := Aside0.mk hg2; have HAT := Aside0.mk hat; have hgg := (HG2.out.block g (blk_lt HG1.out) (fun e => HS1.out.gl.2.2.1 e.symm)).trans HG1.out; have e4 : w2.cell? ⟨g, 4, none⟩ = some lo := (blk_cell hgg 4).trans rfl; have f4 : w2.frozen? ⟨g, 4, none⟩ = false := blk_frozen hgg 4; clear ho hb hg2 hat hgg d4)
    go_end0
    obtain ⟨r1, r2, r3⟩ := app_sto HS1.out HF1.out HFS.out HO.out HG2.out HAT.out
    exact ⟨⟨_, rfl⟩, _, _, r1, HV1.out.trans r2 (fun k q => .inl q), fun k hk => (r3 k hk).elim (fun q => .inl q) (fun q => .inr (Nat.le_trans HV1.out.b.size q))⟩
  | save xs =>
    obtain ⟨bb, v, rfl, hb, hr⟩ := hf
    obtain ⟨⟨t1, t2, hgc, r1, r2⟩, h1, h2, ne, bg, b1, b2, hl⟩ := h
    have HC := Aside0.mk (save_step w g m2 bb v t2 (.map (some m1)) t1 lo xs hgc hb hr)
    have HRD := Aside0.mk hr
    clear hb hr hgc r1 r2 h1 h2 ne bg b1 b2 hl
    go_enter Try.func68, Try.ntmps68
    go_wp2_with fail
    refine HC.out.mono ?_
    rintro e w1 ⟨⟨rv, rfl⟩, hw⟩
    obtain ⟨hS1, hV1⟩ := save_sto HS.out HRD.out
    rw [← hw] at hS1 hV1
    have hS1_ := hS1
    clear hw
    have HV1 := Aside0.mk hV1
    have HF1 := Aside0.mk (HF.out.step (hV1.soft HS.out))
    have hb1 : base ≤ w1.heap.size := Nat.le_trans hbase hV1.b.size
    obtain ⟨⟨u1, u2, hg1, q1, q2⟩, _, _, _, _, _, _, fs, hR, hfs⟩ := hS1
    have HS1 := Aside0.mk hS1_
    have HG1 := Aside0.mk hg1
    have HR := Aside0.mk hR
    have HFS := Aside0.mk hfs
    have hfl : fs.length = steps.length := hfs.length
    have d4 : w1.cell? ⟨g, 4, none⟩ = some lo := (blk_cell hg1 4).trans rfl
    have hlen : (fs.map fun f => [f]).length = fs.length := List.length_map _
    clear hV1 hS1_ hg1 q1 q2 hR hfs
    go_wp2_with (at_builtin; refine Kd.R_append (Kd.raw 1) (w0 := w1) base rfl (.tmp 13) (.tmp 15) 110 119 .nilFunc 8 rfl Try.underlying110 infoStep rfl (by decide) (by omega) lo (fs.map fun f => [f]) [(.func (.func 108) #[] #[.pointer (some ⟨bb, 0, none⟩)])] [(.func (.func 108) #[] #[.pointer (some ⟨bb, 0, none⟩)])] (fun _ => True) (fun _ => False) rfl rfl ⟨rfl, rfl, fun u hu => by rw [List.mem_singleton.1 hu]; rfl⟩ (fun _ hk => hk.elim) (fun _ _ => trivial) HR.out (Below.refl _ _) hb1 (by omega) ?_; intro v1 w2 ho hb hg2 hat; obtain ⟨Av, cv, ev⟩ := Kd.R_slice ho; generalize hnn_ : List.length _ = nn at ev; clear hnn_; subst ev; have HO := Aside0.mk ho; have HG2 := Aside0.mk hg2; have HAT := Aside0.mk hat; have hgg := (HG2.out.block g (blk_lt HG1.out) (fun e => HS1.out.gl.2.2.1 e.symm)).trans HG1.out; have e4 : w2.cell? ⟨g, 4, none⟩ = some lo := (blk_cell hgg 4).trans rfl; have f4 : w2.frozen? ⟨g, 4, none⟩ = false := blk_frozen hgg 4; clear ho hb hg2 hat hgg d4)
    go_end0
    obtain ⟨r1, r2, r3⟩ := app_sto HS1.out HF1.out HFS.out HO.out HG2.out HAT.out
    exact ⟨⟨_, rfl⟩, _, _, r1, HV1.out.trans r2 (fun k q => .inl q), fun k hk => (r3 k hk).elim (fun q => .inl q) (fun q => .inr (Nat.le_trans HV1.out.b.size q))⟩
  | clear =>
    obtain rfl : f = (.func (.func 74) #[] #[]) := hf
    obtain ⟨⟨t1, t2, hgc, r1, r2⟩, h1, h2, ne, bg, b1, b2, hl⟩ := h
    have HC := Aside0.mk (clear_step w g m2 t2 (.map (some m1)) t1 lo hgc)
    clear hgc r1 r2 h1 h2 ne bg b1 b2 hl
    go_enter Try.func68, Try.ntmps68
    go_wp2_with fail
    refine HC.out.mono ?_
    rintro e w1 ⟨⟨rv, rfl⟩, hw⟩
    obtain ⟨hS1, hV1⟩ := clear_sto HS.out
    rw [← hw] at hS1 hV1
    have hS1_ := hS1
    clear hw
    have HV1 := Aside0.mk hV1
    have HF1 := Aside0.mk (HF.out.step (hV1.soft HS.out))
    have hb1 : base ≤ w1.heap.size := Nat.le_trans hbase hV1.b.size
    obtain ⟨⟨u1, u2, hg1, q1, q2⟩, _, _, _, _, _, _, fs, hR, hfs⟩ := hS1
    have HS1 := Aside0.mk hS1_
    have HG1 := Aside0.mk hg1
    have HR := Aside0.mk hR
    have HFS := Aside0.mk hfs
    have hfl : fs.length = steps.length := hfs.length
    have d4 : w1.cell? ⟨g, 4, none⟩ = some lo := (blk_cell hg1 4).trans rfl
    have hlen : (fs.map fun f => [f]).length = fs.length := List.length_map _
    clear hV1 hS1_ hg1 q1 q2 hR hfs
    go_wp2_with (at_builtin; refine Kd.R_append (Kd.raw 1) (w0 := w1) base rfl (.tmp 13) (.tmp 15) 110 119 .nilFunc 8 rfl Try.underlying110 infoStep rfl (by decide) (by omega) lo (fs.map fun f => [f]) [(.func (.func 74) #[] #[])] [(.func (.func 74) #[] #[])] (fun _ => True) (fun _ => False) rfl rfl ⟨rfl, rfl, fun u hu => by rw [List.mem_singleton.1 hu]; rfl⟩ (fun _ hk => hk.elim) (fun _ _ => trivial) HR.out (Below.refl _ _) hb1 (by omega) ?_; intro v1 w2 ho hb hg2 hat; obtain ⟨Av, cv, ev⟩ := Kd.R_slice ho; generalize hnn_ : List.length _ = nn at ev; clear hnn_; subst ev; have HO := Aside0.mk ho; have HG2 := Aside0.mk hg2; have HAT := Aside0.mk hat; have hgg := (HG2.out.block g (blk_lt HG1.out) (fun e => HS1.out.gl.2.2.1 e.symm)).trans HG1.out; have e4 : w2.cell? ⟨g, 4, none⟩ = some lo := (blk_cell hgg 4).trans rfl; have f4 : w2.frozen? ⟨g, 4, none⟩ = false := blk_frozen hgg 4; clear ho hb hg2 hat hgg d4)
    go_end0
    obtain ⟨r1, r2, r3⟩ := app_sto HS1.out HF1.out HFS.out HO.out HG2.out HAT.out
    exact ⟨⟨_, rfl⟩, _, _, r1, HV1.out.trans r2 (fun k q => by rcases q with q | q | q | q; exact .inl (.inl q); exact .inl (.inr (.inl q)); exact .inr (by omega); exact .inl (.inr (.inr (.inr q)))), fun k hk => (r3 k hk).elim ((fun (k : Nat) (q : Own g m1 w.heap.size lo k) => (by rcases q with q | q | q | q; exact .inl (.inl q); exact .inl (.inr (.inl q)); exact .inr (by omega); exact .inl (.inr (.inr (.inr q))) : Own g m1 m2 lo k ∨ w.heap.size ≤ k)) k) (fun q => .inr (Nat.le_trans HV1.out.b.size q))⟩
end Go.Proofs.Ytliohoalackhiaa.T
namespace Go.Proofs.Ytliohoalackhiaa.T
open Go.ChangeMaps hiding rd
open Go.RowKit Go.Maps Go.Proofs.YtliohoalackhiaaW.PrintWords Go.Proofs.YtliohoalackhiaaW.PrintLast Go.Proofs.YtliohoalackhiaaW.PrintMore
set_option linter.unusedVariables false
set_option linter.unusedSimpArgs false
set_option maxRecDepth 100000 in
set_option maxHeartbeats 4000000 in
theorem keep_clear (w : World) (base g m1 m2 : Nat) (lo : Value) (A1 A2 : Hist × List Int) (steps : List Step) (h : Sto w base g m1 m2 lo A1 A2 steps) (hbase : base ≤ w.heap.size) (hn : A2.1.length < 1599400000000) (hs : steps.length < 1599400000000) :
    Calls Try.prog 23 #[.pointer (some ⟨g, 0, none⟩)] w fun e w' => (∃ v, e = .returned v) ∧ ∃ m2' lo', Sto w' base g m1 m2' lo' A1 ([], []) (steps ++ [.clear]) ∧ Mv w w' (Own g m1 m2 lo) ∧ (∀ k, Own g m1 m2' lo' k → Own g m1 m2 lo k ∨ w.heap.size ≤ k) := by
  have HC := Aside0.mk (keep_do w base g m1 m2 lo A1 A2 steps h hbase _ .clear rfl hn hs)
  clear h
  go_enter Try.func23, Try.ntmps23
  go_wp2_with fail
  refine HC.out.mono ?_
  rintro e w1 ⟨⟨rv, rfl⟩, hw⟩
  go_wp2
  go_end0
  exact ⟨⟨_, rfl⟩, hw⟩
set_option maxRecDepth 100000 in
set_option maxHeartbeats 4000000 in
theorem keep_put (w : World) (base g m1 m2 : Nat) (lo : Value) (A1 A2 : Hist × List Int) (steps : List Step) (h : Sto w base g m1 m2 lo A1 A2 steps) (hbase : base ≤ w.heap.size) (hn : A2.1.length < 1599400000000) (hs : steps.length < 1599400000000)
    (i : Int) (A : Option Addr) (c : Nat) (l : List Int) (hr : Kd.C (Kd.int .u8) w A l.length l) (hc : l.length ≤ c) (hi : 0 ≤ i ∧ i < 512) (hl : l.length ≤ 64) :
    Calls Try.prog 16 #[.pointer (some ⟨g, 0, none⟩), .int .i64 i, .slice A l.length c] w fun e w' => e = .returned (.bool true) ∧ ∃ m2' lo', Sto w' base g m1 m2' lo' A1 ((i, l) :: A2.1, A2.2) (steps ++ [.put i l]) ∧ Mv w w' (Own g m1 m2 lo) ∧ (∀ k, Own g m1 m2' lo' k → Own g m1 m2 lo k ∨ w.heap.size ≤ k) := by
  have HS := Aside0.mk h
  have HR := Aside0.mk hr
  have hi1 : ¬ i < 0 := by omega
  have hi2 : ¬ i ≥ 512 := by omega
  have hl2 : ¬ (l.length : Int) > 64 := by omega
  clear h hr
  go_enter Try.func16, Try.ntmps16
  go_wp2_with fail
  have hI := blk_new w (.cells #[.int .i64 i] 3)
  have hb1 := below_alloc (Below.refl w.heap.size w) (.cells #[.int .i64 i] 3)
  have hsz := World.size_alloc w (.cells #[.int .i64 i] 3)
  generalize w.alloc (.cells #[.int .i64 i] 3) = wa at hI hb1 hsz ⊢
  have hX := blk_new wa (.cells #[.slice A l.length c] 22)
  have hb2 := below_alloc (Below.refl wa.heap.size wa) (.cells #[.slice A l.length c] 22)
  rw [hsz] at hX
  generalize wa.alloc (.cells #[.slice A l.length c] 22) = wb at hX hb2 ⊢
  have HI := Aside0.mk (blk_below hI hb2)
  have HB := Aside0.mk (below_step hb1 hb2)
  have HX := Aside0.mk hX
  clear hI hb1 hsz hX hb2
  refine (bytes_Clone.calls A c l l wb (Kd.C_below HR.out HB.out) hc (by unfold bytes_Clone.f; rw [if_pos (by omega)])).mono ?_
  rintro e wc ⟨vc, rfl, hR, hb3⟩
  obtain ⟨Ac, cc, ec⟩ := Kd.R_slice hR
  subst ec
  have HRC := Aside0.mk hR
  have n0_ := Aside0.mk (blk_below HI.out hb3)
  have n1_ := Aside0.mk (blk_below HX.out hb3)
  have n2_ := Aside0.mk (below_step HB.out hb3)
  clear HI HX HB hR hb3
  have HI := n0_
  have HX := n1_
  have HB := n2_
  clear n0_ n1_ n2_
  have d0 : wc.cell? ⟨w.heap.size + 1, 0, none⟩ = some (.slice A l.length c) := (blk_cell HX.out 0).trans rfl
  have f0 : wc.frozen? ⟨w.heap.size + 1, 0, none⟩ = false := blk_frozen HX.out 0
  go_wp2_with fail
  have hBd := HB.out.setCell (p := ⟨w.heap.size + 1, 0, none⟩) (Nat.le_succ _) (.slice Ac l.length cc)
  have hId := (heap_set (w := wc) (g := w.heap.size + 1) (j := 0) (k := w.heap.size) (.slice Ac l.length cc) (by omega)).trans HI.out
  have hXd := blk_put HX.out 0 (.slice Ac l.length cc) rfl
  have hRd := Kd.R_set HRC.out HX.out (by decide) 0 (.slice Ac l.length cc)
  generalize wc.setCell ⟨w.heap.size + 1, 0, none⟩ (.slice Ac l.length cc) = wd at hBd hId hXd hRd ⊢
  refine (keep_do wd base g m1 m2 lo A1 A2 steps (HS.out.below hBd) (Nat.le_trans hbase hBd.size) _ (.put i l) ⟨_, _, _, rfl, hId, hXd, Rd.of_R hRd, hi⟩ hn hs).mono ?_
  rintro e we ⟨⟨rv, rfl⟩, m2', lo', hS, hV, hO⟩
  have HSE := Aside0.mk hS
  have HVE := Aside0.mk ((Mv.of_below hBd (Own g m1 m2 lo)).trans hV (fun k hk => .inl hk))
  have HOE := Aside0.mk (fun k hk => (hO k hk).elim (fun q => (.inl q : Own g m1 m2 lo k ∨ w.heap.size ≤ k)) (fun q => .inr (Nat.le_trans hBd.size q)))
  clear hS hV hO
  go_wp2
  go_ret
  exact ⟨rfl, m2', lo', HSE.out, HVE.out, HOE.out⟩
end Go.Proofs.Ytliohoalackhiaa.T
namespace Go.Proofs.Ytliohoalackhiaa.T
open Go.ChangeMaps hiding rd
open Go.RowKit Go.Maps Go.Proofs.YtliohoalackhiaaW.PrintWords Go.Proofs.YtliohoalackhiaaW.PrintLast Go.Proofs.YtliohoalackhiaaW.PrintMore
set_option linter.unusedVariables false
set_option linter.unusedSimpArgs false
set_option maxRecDepth 100000 in
set_option maxHeartbeats 4000000 in
theorem clone_map (w : World) (m : Nat) (H : Hist) (h : MapIs w m H) :
    Calls Try.prog 121 #[.map (some m)] w fun e w' => e = .returned (.map (some w.heap.size)) ∧ MapIs w' w.heap.size H ∧ Below w.heap.size w w' := by
  have HM := Aside0.mk h
  obtain ⟨vals, ⟨es, clock, hb, F, hs, hD⟩, hv, hbd⟩ := h
  have hq := fun w => run_eql_map_nil_sl (P := Try.prog) w 107 _ _ (some m) Try.underlying107
  go_enter Try.func121, Try.ntmps121
  go_wp2
  rw [run_callFunc_extern Try.func147 (by kernel_rfl) (by kernel_rfl) (by kernel_rfl) (e := Extern.MapsClone.clone) (by kernel_rfl), run_maps_clone_sl w 107 hb]
  simp only [Result.andThen]
  rw [Oper.upon_value]
  go_wp2
  rw [run_typeAssert_map_sl _ 107 _ _ _ _ Try.underlying107]
  simp only [Result.andThen]
  rw [Oper.upon_value]
  go_wp2
  go_ret
  have hB : Below w.heap.size w (w.alloc (.map es clock)) := (Below.refl _ w).alloc (Nat.le_refl _) _
  have hs2 := softKept_below hB
  exact ⟨rfl, ⟨vals, ⟨es, clock, (MapKept.heap_alloc w _).1, F, hs, hD⟩, forall2_imp (fun _ _ h => ⟨h.1, h.2.step hs2⟩) hv, hbd⟩, hB⟩
set_option maxRecDepth 100000 in
set_option maxHeartbeats 4000000 in
theorem copied_any (w : World) (m : Nat) (H : Hist) (t : Value) (tok : List Int) (h : MapIs w m H) (ht : Rd w t tok) :
    Calls Try.prog 70 #[.agg #[.map (some m), t]] w fun e w' => ∃ m', e = .returned (.agg #[.map (some m'), t]) ∧ w.heap.size ≤ m' ∧ MapIs w' m' H ∧ Below w.heap.size w w' := by
  have HM := Aside0.mk h
  obtain ⟨A, c, e, hl, hC⟩ := ht.reads
  have HT := Aside0.mk ht
  clear h ht hC
  subst e
  go_enter Try.func70, Try.ntmps70
  go_wp2_with fail
  have hx := blk_new w (.cells #[.map (some m), .slice A tok.length c] 109)
  have hb1 := below_alloc (Below.refl w.heap.size w) (.cells #[.map (some m), .slice A tok.length c] 109)
  have hsz := World.size_alloc w (.cells #[.map (some m), .slice A tok.length c] 109)
  generalize w.alloc (.cells #[.map (some m), .slice A tok.length c] 109) = wa at hx hb1 hsz ⊢
  have hy := blk_new wa (.cells #[.map none, .slice none 0 0] 109)
  have hb2 := below_alloc (Below.refl wa.heap.size wa) (.cells #[.map none, .slice none 0 0] 109)
  rw [hsz] at hy
  generalize wa.alloc (.cells #[.map none, .slice none 0 0] 109) = W at hy hb2 ⊢
  have HX := Aside0.mk (blk_below hx hb2)
  have HY := Aside0.mk hy
  have HB := Aside0.mk (below_step hb1 hb2)
  have HMW := Aside0.mk ((HM.out.step (softKept_below HB.out) (HB.out.block m HM.out.lt)))
  have HCL := Aside0.mk (clone_map W.drew m H (HMW.out.step (fun _ _ => rfl) rfl))
  have d0 : W.cell? ⟨w.heap.size, 0, none⟩ = some (.map (some m)) := (blk_cell HX.out 0).trans rfl
  have d1 : W.cell? ⟨w.heap.size, 1, none⟩ = some (.slice A tok.length c) := (blk_cell HX.out 1).trans rfl
  clear hx hb1 hsz hy hb2
  go_region_with (go_at_call 121; refine HCL.out.mono ?_; rintro e w' ⟨rfl, hm', hb'⟩; have HM' := Aside0.mk hm'; have HB' := Aside0.mk (show Below W.heap.size W w' from ⟨hb'.os, hb'.tape, hb'.output, hb'.size, hb'.block⟩); have e0 : w'.cell? ⟨w.heap.size, 0, none⟩ = some (.map (some m)) := (blk_cell (blk_below HX.out HB'.out) 0).trans rfl; have e1 : w'.cell? ⟨w.heap.size, 1, none⟩ = some (.slice A tok.length c) := (blk_cell (blk_below HX.out HB'.out) 1).trans rfl; have g0 : w'.cell? ⟨w.heap.size + 1, 0, none⟩ = some (.map none) := (blk_cell (blk_below HY.out HB'.out) 0).trans rfl; have g1 : w'.cell? ⟨w.heap.size + 1, 1, none⟩ = some (.slice none 0 0) := (blk_cell (blk_below HY.out HB'.out) 1).trans rfl; have f0 : w'.frozen? ⟨w.heap.size + 1, 0, none⟩ = false := blk_frozen (blk_below HY.out HB'.out) 0; have f1 : w'.frozen? ⟨w.heap.size + 1, 1, none⟩ = false := blk_frozen (blk_below HY.out HB'.out) 1; clear hm' hb' HCL)
  all_goals go_wp2
  all_goals
    have hB2 := below_step HB.out HB'.out
    have hp0 := blk_put (blk_below HY.out HB'.out) 0 (.map (some W.heap.size)) rfl
    have hk0 : ∀ k, k ≠ w.heap.size + 1 → ((w'.setCell ⟨w.heap.size + 1, 0, none⟩ (.map (some W.heap.size))).setCell ⟨w.heap.size + 1, 1, none⟩ (.slice A tok.length c)).heap[k]? = w'.heap[k]? := fun k hk => (heap_set _ hk).trans (heap_set _ hk)
    have hp1 := blk_put hp0 1 (.slice A tok.length c) rfl
    have hBf := (hB2.setCell (p := ⟨w.heap.size + 1, 0, none⟩) (Nat.le_succ _) (.map (some W.heap.size))).setCell (p := ⟨w.heap.size + 1, 1, none⟩) (Nat.le_succ _) (.slice A tok.length c)
    generalize (w'.setCell ⟨w.heap.size + 1, 0, none⟩ (.map (some W.heap.size))).setCell ⟨w.heap.size + 1, 1, none⟩ (.slice A tok.length c) = W2 at hk0 hp1 hBf ⊢
    have c0 : W2.cell? ⟨w.heap.size + 1, 0, none⟩ = some (.map (some W.heap.size)) := (blk_cell hp1 0).trans rfl
    have c1 : W2.cell? ⟨w.heap.size + 1, 1, none⟩ = some (.slice A tok.length c) := (blk_cell hp1 1).trans rfl
    have hsk : SoftKept w' W2 := fun k hk => hk0 k (fun e => by
      subst e
      obtain ⟨cs, t, hc, ht⟩ := hk
      rw [blk_below HY.out HB'.out] at hc
      injection hc with hc
      injection hc with _ e2 _
      subst e2
      revert ht; decide)
    have hlt : w.heap.size + 1 < W.heap.size := blk_lt HY.out
    refine bodyPost_ret (v := .agg #[.map (some W.heap.size), .slice A tok.length c]) (by simp [results, Try.results70, go_sem, c0, c1]) rfl ?_
    exact ⟨W.heap.size, rfl, by omega, (show MapIs w' W.heap.size H from HM'.out).step hsk (hk0 W.heap.size (by omega)), hBf⟩
end Go.Proofs.Ytliohoalackhiaa.T
namespace Go.Proofs.Ytliohoalackhiaa.T
open Go.ChangeMaps hiding rd
open Go.RowKit Go.Maps Go.Proofs.YtliohoalackhiaaW.PrintWords Go.Proofs.YtliohoalackhiaaW.PrintLast Go.Proofs.YtliohoalackhiaaW.PrintMore
set_option linter.unusedVariables false
set_option linter.unusedSimpArgs false
theorem flush_sto {w w1 : World} {base g m1 m2 m' : Nat} {lo t1 t2 : Value} {A1 A2 : Hist × List Int} {steps : List Step} (h : Sto w base g m1 m2 lo A1 A2 steps) (hgc : w.heap[g]? = some (.cells #[.map (some m1), t1, .map (some m2), t2, lo] 112 (0, 0))) (hr : Rd w t2 A2.2)
    (hb : Below w.heap.size w w1) (hm : MapIs w1 m' A2.1) (hm' : w.heap.size ≤ m') (hbase : base ≤ w.heap.size) (w2 : World) (hw2 : w2 = ((w1.setCell ⟨g, 0, none⟩ (.map (some m'))).setCell ⟨g, 1, none⟩ t2).setCell ⟨g, 4, none⟩ (.slice none 0 0)) :
    Sto w2 base g m' m2 (.slice none 0 0) A2 A2 [] ∧ Mv w w2 (Own g m1 m2 lo) ∧ (∀ k, Own g m' m2 (.slice none 0 0) k → Own g m1 m2 lo k ∨ w.heap.size ≤ k) := by
  have hne := h.gl
  have hlt := fun k hk => h.lt (k := k) hk
  have hard := h.h2.lt
  obtain ⟨_, h1, h2, ne, bg, b1, b2, hl⟩ := h
  have hg1 := blk_below hgc hb
  have hp0 := blk_put hg1 0 (.map (some m')) rfl
  have hs0 := softKept_set (j := 0) hg1 (.map (some m'))
  have hp1 := blk_put hp0 1 t2 rfl
  have hs1 := hs0.trans (softKept_set (j := 1) hp0 t2)
  have hp2 := blk_put hp1 4 (.slice none 0 0) rfl
  have hs2 := (softKept_below hb).trans (hs1.trans (softKept_set (j := 4) hp1 (.slice none 0 0)))
  have hk2 : ∀ k, k ≠ g → w2.heap[k]? = w1.heap[k]? := fun k hk => by rw [hw2]; exact (heap_set _ hk).trans ((heap_set _ hk).trans (heap_set _ hk))
  have hsz : w2.heap.size = w1.heap.size := by rw [hw2]; simp [World.setCell]
  have hx : w2.os = w1.os ∧ w2.tape = w1.tape ∧ w2.output = w1.output := by rw [hw2]; exact ⟨rfl, rfl, rfl⟩
  rw [← hw2] at hp2 hs2
  have hgl := hlt g (.inl rfl)
  have hmg : m' ≠ g := by omega
  have hs12 : SoftKept w1 w2 := fun k hk => hk2 k (fun e => sto_soft hg1 (e ▸ hk))
  refine ⟨⟨⟨t2, t2, hp2, hr.step hs2, hr.step hs2⟩, hm.step hs12 (hk2 m' hmg), h2.step hs2 ((hk2 m2 hne.2.1).trans (hb.block m2 hard)), by omega, bg, by omega, b2, loose_nil _ _⟩, ⟨⟨hx.1.trans hb.os, hx.2.1.trans hb.tape, hx.2.2.trans hb.output, by rw [hsz]; exact hb.size, fun _ hk => by omega⟩, by rw [hsz]; exact hb.size, fun k hk hn => (hk2 k (fun e => hn (.inl e))).trans (hb.block k hk)⟩, fun k hk => ?_⟩
  rcases hk with hk | hk | hk | hk
  · exact .inl (.inl hk)
  · exact .inr (by omega)
  · exact .inl (.inr (.inr (.inl hk)))
  · cases hk
set_option maxRecDepth 100000 in
set_option maxHeartbeats 4000000 in
theorem keep_flush (w : World) (base g m1 m2 : Nat) (lo : Value) (A1 A2 : Hist × List Int) (steps : List Step) (h : Sto w base g m1 m2 lo A1 A2 steps) (hbase : base ≤ w.heap.size) :
    Calls Try.prog 17 #[.pointer (some ⟨g, 0, none⟩)] w fun e w' => (∃ v, e = .returned v) ∧ ∃ m1', Sto w' base g m1' m2 (.slice none 0 0) A2 A2 [] ∧ Mv w w' (Own g m1 m2 lo) ∧ (∀ k, Own g m1' m2 (.slice none 0 0) k → Own g m1 m2 lo k ∨ w.heap.size ≤ k) := by
  have HS := Aside0.mk h
  obtain ⟨⟨t1, t2, hgc, r1, r2⟩, h1, h2, ne, bg, b1, b2, hl⟩ := h
  have HC := Aside0.mk (copied_any w m2 A2.1 t2 A2.2 h2 r2)
  have HR := Aside0.mk r2
  have HG := Aside0.mk hgc
  obtain ⟨A, c, e, hl, hC⟩ := r2.reads
  obtain ⟨B, b, e', hl', hC'⟩ := r1.reads
  subst e e'
  have d0 : w.cell? ⟨g, 0, none⟩ = some (.map (some m1)) := (blk_cell hgc 0).trans rfl
  have d1 : w.cell? ⟨g, 1, none⟩ = some (.slice B A1.2.length b) := (blk_cell hgc 1).trans rfl
  have d2 : w.cell? ⟨g, 2, none⟩ = some (.map (some m2)) := (blk_cell hgc 2).trans rfl
  have d3 : w.cell? ⟨g, 3, none⟩ = some (.slice A A2.2.length c) := (blk_cell hgc 3).trans rfl
  clear hgc r1 r2 h1 h2 ne bg b1 b2 hl hl' hC hC'
  go_enter Try.func17, Try.ntmps17
  go_wp2_with fail
  refine HC.out.mono ?_
  rintro e w1 ⟨m', rfl, hm', hM, hb⟩
  have HM := Aside0.mk hM
  have HB := Aside0.mk hb
  have HL := Aside0.mk hm'
  have hg1 := blk_below HG.out HB.out
  have e0 : w1.cell? ⟨g, 0, none⟩ = some (.map (some m1)) := (blk_cell hg1 0).trans rfl
  have e1 : w1.cell? ⟨g, 1, none⟩ = some (.slice B A1.2.length b) := (blk_cell hg1 1).trans rfl
  have e4 : w1.cell? ⟨g, 4, none⟩ = some lo := (blk_cell hg1 4).trans rfl
  have f0 := blk_frozen hg1 0
  have f1 := blk_frozen hg1 1
  have f4 := blk_frozen hg1 4
  clear hM hb hm' hg1 d0 d1 d2 d3
  go_wp2_with fail
  go_end0
  obtain ⟨q1, q2, q3⟩ := flush_sto HS.out HG.out HR.out HB.out HM.out HL.out hbase _ rfl
  exact ⟨⟨_, rfl⟩, m', q1, q2, q3⟩
set_option maxRecDepth 100000 in
set_option maxHeartbeats 4000000 in
theorem keep_loose (w : World) (base g m1 m2 : Nat) (lo : Value) (A1 A2 : Hist × List Int) (steps : List Step) (h : Sto w base g m1 m2 lo A1 A2 steps) :
    Calls Try.prog 22 #[.pointer (some ⟨g, 0, none⟩)] w fun e w' => e = .returned (.int .i64 steps.length) ∧ w' = w := by
  obtain ⟨⟨t1, t2, hgc, r1, r2⟩, h1, h2, ne, bg, b1, b2, fs, hR, hfs⟩ := h
  obtain ⟨A, c, e⟩ := Kd.R_slice hR
  rw [List.length_map, hfs.length] at e
  subst e
  have d4 : w.cell? ⟨g, 4, none⟩ = some (.slice A steps.length c) := (blk_cell hgc 4).trans rfl
  clear hgc r1 r2 h1 h2 ne bg b1 b2 hR hfs
  go_enter Try.func22, Try.ntmps22
  go_wp2_with fail
  go_ret
  exact ⟨rfl, rfl⟩
def getA (H : Hist) (i : Int) : Option (List Int) := (H.find? (fun p => p.1 == i)).map (·.2)
theorem get_all2 {w : World} {vals : List (Int × Value)} {H : Hist} (h : All2 (fun p q => p.1 = q.1 ∧ Rd w p.2 q.2) vals H) (i : Int) :
    (∃ p xs, vals.find? (fun p => p.1 == i) = some p ∧ getA H i = some xs ∧ Rd w p.2 xs) ∨ (vals.find? (fun p => p.1 == i) = none ∧ getA H i = none) := by
  induction h with
  | nil => exact .inr ⟨rfl, rfl⟩
  | @cons a b l m h t ih =>
    unfold getA at ih ⊢
    rw [List.find?_cons, List.find?_cons, h.1]
    by_cases e : (b.1 == i) = true
    · rw [e]; exact .inl ⟨a, b.2, rfl, rfl, h.2⟩
    · rw [Bool.eq_false_iff.mpr e]; exact ih
theorem any_find {α : Type} (l : List α) (p : α → Bool) : l.any p = (l.find? p).isSome := by
  induction l with
  | nil => rfl
  | cons a t ih =>
    rw [List.any_cons, List.find?_cons]
    cases h : p a with
    | true => rfl
    | false => rw [Bool.false_or, ih]
theorem map_look {w : World} {m : Nat} {H : Hist} (h : MapIs w m H) (i : Int) (hi : (Lit.int .i64 i).wf = true) :
    ∃ v, (Instr.lookup 107 (.map (some m)) (.int .i64 i) true).run Try.prog w = .ok (.tuple #[v, .bool (getA H i).isSome]) w ∧ Rd w v ((getA H i).getD []) := by
  obtain ⟨vals, ho, hv, _⟩ := h
  have law : Keyed Try.prog 3 := int_keyed Try.underlying3
  obtain ⟨v, ps, hrun, hat⟩ := ho.look_ok law Try.underlying107 (show (zeroValue 22).run Try.prog w = .ok (.slice none 0 0) w from Try.zeroValue22 w) (zd := .held (.slice none 0 0)) (zp := []) rfl (ikey Try.underlying3 i hi)
  rw [kindD_at] at hat
  rw [kindD_has, any_find] at hrun
  unfold asIs at hat
  rcases get_all2 hv i with ⟨p, xs, e1, e2, hr⟩ | ⟨e1, e2⟩
  · rw [e1] at hat hrun
    rw [e2]
    simp only [Option.some.injEq, Prod.mk.injEq, DataW.held.injEq] at hat
    obtain rfl := hat.1
    exact ⟨_, hrun, hr⟩
  · rw [e1] at hat hrun
    rw [e2]
    simp only [Option.some.injEq, Prod.mk.injEq, DataW.held.injEq] at hat
    obtain rfl := hat.1
    exact ⟨_, hrun, Rd.nil w⟩
set_option maxRecDepth 100000 in
set_option maxHeartbeats 4000000 in
theorem keep_get (w : World) (base g m1 m2 : Nat) (lo : Value) (A1 A2 : Hist × List Int) (steps : List Step) (h : Sto w base g m1 m2 lo A1 A2 steps) (i : Int) (hi : (Lit.int .i64 i).wf = true) (hs : ((getA A2.1 i).getD []).length ≤ 1599400000000) :
    Calls Try.prog 20 #[.pointer (some ⟨g, 0, none⟩), .int .i64 i] w fun e w' => ∃ v, e = .returned (.tuple #[v, .bool (getA A2.1 i).isSome]) ∧ Kd.R (Kd.int .u8) 5 w' w.heap.size (fun _ => True) v ((getA A2.1 i).getD []) ∧ Below w.heap.size w w' := by
  obtain ⟨⟨t1, t2, hgc, r1, r2⟩, h1, h2, ne, bg, b1, b2, hl⟩ := h
  obtain ⟨v, hrun, hr⟩ := map_look h2 i hi
  obtain ⟨A, c, e, hc, hC⟩ := hr.reads
  have HC := Aside0.mk (bytes_Clone.calls A c _ _ w hC hc (by unfold bytes_Clone.f; rw [if_pos (by omega)]))
  subst e
  have d2 : w.cell? ⟨g, 2, none⟩ = some (.map (some m2)) := (blk_cell hgc 2).trans rfl
  clear hgc r1 r2 h1 h2 ne bg b1 b2 hl hr hC
  generalize (getA A2.1 i).isSome = is at hrun ⊢
  generalize (getA A2.1 i).getD [] = xs at hrun HC hs hc ⊢
  go_enter Try.func20, Try.ntmps20
  go_wp2_with fail
  refine HC.out.mono ?_
  rintro e w1 ⟨v0, rfl, hR, hb⟩
  have HR := Aside0.mk hR
  have HB := Aside0.mk hb
  clear hR hb
  go_wp2
  go_ret2
  exact ⟨_, rfl, HR.out, HB.out⟩
end Go.Proofs.Ytliohoalackhiaa.T
namespace Go.Proofs.Ytliohoalackhiaa.T
open Go.ChangeMaps hiding rd
open Go.RowKit Go.Maps Go.Proofs.YtliohoalackhiaaW.PrintWords Go.Proofs.YtliohoalackhiaaW.PrintLast Go.Proofs.YtliohoalackhiaaW.PrintMore
set_option linter.unusedVariables false
set_option linter.unusedSimpArgs false
def crashA : Hist × List Int → List Step → List Bool → Hist × List Int
  | A, s :: ss, true :: ks => crashA (app s A) ss ks
  | A, _ :: ss, false :: ks => crashA A ss ks
  | A, _, _ => A
theorem crashA_nil (A : Hist × List Int) (ks : List Bool) : crashA A [] ks = A := by cases ks <;> rfl
theorem crashA_none (A : Hist × List Int) (ss : List Step) : crashA A ss [] = A := by cases ss <;> rfl
theorem crash_sto {w w1 : World} {base g m1 m2 m' : Nat} {lo t1 t2 : Value} {A1 A2 : Hist × List Int} {steps : List Step} (h : Sto w base g m1 m2 lo A1 A2 steps) (hgc : w.heap[g]? = some (.cells #[.map (some m1), t1, .map (some m2), t2, lo] 112 (0, 0))) (hr : Rd w t1 A1.2)
    (hb : Below w.heap.size w w1) (hm : MapIs w1 m' A1.1) (hm' : w.heap.size ≤ m') (hbase : base ≤ w.heap.size) (w2 : World) (hw2 : w2 = (w1.setCell ⟨g, 2, none⟩ (.map (some m'))).setCell ⟨g, 3, none⟩ t1) :
    Sto w2 base g m1 m' lo A1 A1 steps ∧ Mv w w2 (Own g m1 m2 lo) ∧ (∀ k, Own g m1 m' lo k → Own g m1 m2 lo k ∨ w.heap.size ≤ k) := by
  have hne := h.gl
  have hlt := fun k hk => h.lt (k := k) hk
  have h1l := h.h1.lt
  obtain ⟨_, h1, h2, ne, bg, b1, b2, hl⟩ := h
  have hg1 := blk_below hgc hb
  have hp0 := blk_put hg1 2 (.map (some m')) rfl
  have hs0 := softKept_set (j := 2) hg1 (.map (some m'))
  have hp1 := blk_put hp0 3 t1 rfl
  have hs2 := (softKept_below hb).trans (hs0.trans (softKept_set (j := 3) hp0 t1))
  have hk2 : ∀ k, k ≠ g → w2.heap[k]? = w1.heap[k]? := fun k hk => by rw [hw2]; exact (heap_set _ hk).trans (heap_set _ hk)
  have hsz : w2.heap.size = w1.heap.size := by rw [hw2]; simp [World.setCell]
  have hx : w2.os = w1.os ∧ w2.tape = w1.tape ∧ w2.output = w1.output := by rw [hw2]; exact ⟨rfl, rfl, rfl⟩
  rw [← hw2] at hp1 hs2
  have hgl := hlt g (.inl rfl)
  have hmg : m' ≠ g := by omega
  have hs12 : SoftKept w1 w2 := fun k hk => hk2 k (fun e => sto_soft hg1 (e ▸ hk))
  refine ⟨⟨⟨t1, t1, hp1, hr.step hs2, hr.step hs2⟩, h1.step hs2 ((hk2 m1 hne.1).trans (hb.block m1 h1l)), hm.step hs12 (hk2 m' hmg), by omega, bg, b1, by omega, hl.step hs2 (fun k hk => (hk2 k (fun e => hne.2.2.1 (e ▸ hk))).trans (hb.block k (hlt k (.inr (.inr (.inr hk))))))⟩, ⟨⟨hx.1.trans hb.os, hx.2.1.trans hb.tape, hx.2.2.trans hb.output, by rw [hsz]; exact hb.size, fun _ hk => by omega⟩, by rw [hsz]; exact hb.size, fun k hk hn => (hk2 k (fun e => hn (.inl e))).trans (hb.block k hk)⟩, fun k hk => ?_⟩
  rcases hk with hk | hk | hk | hk
  · exact .inl (.inl hk)
  · exact .inl (.inr (.inl hk))
  · exact .inr (by omega)
  · exact .inl (.inr (.inr (.inr hk)))
def StepPost (w : World) (base g m1 m2 : Nat) (lo : Value) (A1 : Hist × List Int) (A : Hist × List Int) (steps : List Step) (e : Ending) (w' : World) : Prop :=
  (∃ v, e = .returned v) ∧ ∃ m2', Sto w' base g m1 m2' lo A1 A steps ∧ Mv w w' (Own g m1 m2 lo) ∧ (∀ k, Own g m1 m2' lo k → Own g m1 m2 lo k ∨ w.heap.size ≤ k)
theorem step_call {w : World} {base g m1 m2 : Nat} {lo : Value} {A1 A2 : Hist × List Int} {steps : List Step} (h : Sto w base g m1 m2 lo A1 A2 steps) {f : Value} {s : Step} (hf : IsStep w f s) (hn : A2.1.length < 1599400000000) (hbase : base ≤ w.heap.size) :
    (∃ bb bi, f = .func (.func 69) #[] #[.pointer (some ⟨bb, 0, none⟩), .pointer (some ⟨bi, 0, none⟩)] ∧ Calls Try.prog 69 #[.pointer (some ⟨g, 2, none⟩), .pointer (some ⟨bb, 0, none⟩), .pointer (some ⟨bi, 0, none⟩)] w (StepPost w base g m1 m2 lo A1 (app s A2) steps)) ∨
    (∃ bb, f = .func (.func 108) #[] #[.pointer (some ⟨bb, 0, none⟩)] ∧ Calls Try.prog 108 #[.pointer (some ⟨g, 2, none⟩), .pointer (some ⟨bb, 0, none⟩)] w (StepPost w base g m1 m2 lo A1 (app s A2) steps)) ∨
    (f = .func (.func 74) #[] #[] ∧ Calls Try.prog 74 #[.pointer (some ⟨g, 2, none⟩)] w (StepPost w base g m1 m2 lo A1 (app s A2) steps)) := by
  have HS := Aside0.mk h
  obtain ⟨⟨t1, t2, hgc, r1, r2⟩, h1, h2, ne, bg, b1, b2, hl⟩ := h
  cases s with
  | put i xs =>
    obtain ⟨bb, bi, v, rfl, hi, hb, hr, hi0⟩ := hf
    refine .inl ⟨bb, bi, rfl, (put_step w g m2 bb bi v t2 (.map (some m1)) t1 lo i A2.1 xs hgc h2 hn hi hb hr hi0).mono ?_⟩
    rintro e w1 ⟨hv, hm, hg⟩
    obtain ⟨q1, q2⟩ := put_sto HS.out hm hg
    exact ⟨hv, m2, q1, q2, fun k q => .inl q⟩
  | save xs =>
    obtain ⟨bb, v, rfl, hb, hr⟩ := hf
    refine .inr (.inl ⟨bb, rfl, (save_step w g m2 bb v t2 (.map (some m1)) t1 lo xs hgc hb hr).mono ?_⟩)
    rintro e w1 ⟨hv, rfl⟩
    obtain ⟨q1, q2⟩ := save_sto HS.out hr
    exact ⟨hv, m2, q1, q2, fun k q => .inl q⟩
  | clear =>
    refine .inr (.inr ⟨hf, (clear_step w g m2 t2 (.map (some m1)) t1 lo hgc).mono ?_⟩)
    rintro e w1 ⟨hv, rfl⟩
    obtain ⟨q1, q2⟩ := clear_sto HS.out
    refine ⟨hv, w.heap.size, q1, q2, fun k q => ?_⟩
    rcases q with q | q | q | q
    · exact .inl (.inl q)
    · exact .inl (.inr (.inl q))
    · exact .inr (by omega)
    · exact .inl (.inr (.inr (.inr q)))
theorem all2_at {α β : Type} {R : α → β → Prop} {l : List α} {m : List β} (h : All2 R l m) : ∀ {k : Nat}, k < m.length → ∃ a b, l[k]? = some a ∧ m.drop k = b :: m.drop (k + 1) ∧ R a b := by
  induction h with
  | nil => intro k hk; simp at hk
  | cons h t ih =>
    intro k hk
    cases k with
    | zero => exact ⟨_, _, rfl, rfl, h⟩
    | succ k =>
      obtain ⟨a, b, h1, h2, h3⟩ := ih (k := k) (by simpa using hk)
      exact ⟨a, b, by simpa using h1, by simpa using h2, h3⟩
set_option maxRecDepth 100000 in
set_option maxHeartbeats 4000000 in
theorem keep_crash (w : World) (base g m1 m2 : Nat) (lo : Value) (A1 A2 : Hist × List Int) (steps : List Step) (h : Sto w base g m1 m2 lo A1 A2 steps) (hbase : base ≤ w.heap.size) (hn : A1.1.length + steps.length < 1599400000000)
    (A : Option Addr) (c : Nat) (ks : List Bool) (hk : ∀ w', Kept w w' (Own g m1 m2 lo) → Kd.C Kd.bool w' A ks.length ks) (hkc : ks.length ≤ c) :
    Calls Try.prog 19 #[.pointer (some ⟨g, 0, none⟩), .slice A ks.length c] w fun e w' => (∃ v, e = .returned v) ∧ ∃ m1' m2', Sto w' base g m1' m2' (.slice none 0 0) (crashA A1 steps ks) (crashA A1 steps ks) [] ∧ Mv w w' (Own g m1 m2 lo) ∧ (∀ k, Own g m1' m2' (.slice none 0 0) k → Own g m1 m2 lo k ∨ w.heap.size ≤ k) := by
  have HS := Aside0.mk h
  have HK := Aside0.mk hk
  obtain ⟨⟨t1, t2, hgc, r1, r2⟩, h1, h2, ne, bg, b1, b2, hl⟩ := h
  have HC := Aside0.mk (copied_any w m1 A1.1 t1 A1.2 h1 r1)
  have HR := Aside0.mk r1
  have HG := Aside0.mk hgc
  obtain ⟨B, b, e, hl, hC⟩ := r1.reads
  obtain ⟨B2, b2, e', hl', hC'⟩ := r2.reads
  subst e e'
  have d0 : w.cell? ⟨g, 0, none⟩ = some (.map (some m1)) := (blk_cell hgc 0).trans rfl
  have d1 : w.cell? ⟨g, 1, none⟩ = some (.slice B A1.2.length b) := (blk_cell hgc 1).trans rfl
  clear hgc r1 r2 h1 h2 ne bg b1 hl hl' hC hC' hk
  go_enter Try.func19, Try.ntmps19
  go_wp2_with fail
  refine HC.out.mono ?_
  rintro e w1 ⟨m', rfl, hm', hM, hb⟩
  have HM := Aside0.mk hM
  have HB := Aside0.mk hb
  have HL := Aside0.mk hm'
  have hg1 := blk_below HG.out HB.out
  have e2 : w1.cell? ⟨g, 2, none⟩ = some (.map (some m2)) := (blk_cell hg1 2).trans rfl
  have e3 : w1.cell? ⟨g, 3, none⟩ = some (.slice B2 A2.2.length b2) := (blk_cell hg1 3).trans rfl
  have e4 : w1.cell? ⟨g, 4, none⟩ = some lo := (blk_cell hg1 4).trans rfl
  have f2 := blk_frozen hg1 2
  have f3 := blk_frozen hg1 3
  clear hM hb hm' hg1 d0 d1
  obtain ⟨fs0, hR0, hf0⟩ := HS.out.hl
  obtain ⟨Al, cl, el⟩ := Kd.R_slice hR0
  rw [List.length_map, hf0.length] at el
  clear hR0 hf0
  go_wp2_with fail
  obtain ⟨q1, q2, q3⟩ := crash_sto HS.out HG.out HR.out HB.out HM.out HL.out hbase _ rfl
  clear e2 e3 e4 f2 f3
  subst el
  generalize (w1.setCell ⟨g, 2, none⟩ (.map (some m'))).setCell ⟨g, 3, none⟩ (.slice B A1.2.length b) = w2 at q1 q2 q3 ⊢
  go_loopw [21] (fun i wr => ∃ (k : Nat) (m3 : Nat) (Ai : Hist × List Int), k ≤ steps.length ∧ i = .int .i64 k ∧ Aside0 (Sto wr base g m1 m3 (.slice Al steps.length cl) A1 Ai steps) ∧ Aside0 (Mv w wr (Own g m1 m2 (.slice Al steps.length cl))) ∧ Aside0 (∀ k, Own g m1 m3 (.slice Al steps.length cl) k → Own g m1 m2 (.slice Al steps.length cl) k ∨ w.heap.size ≤ k) ∧ Aside0 (crashA Ai (steps.drop k) (ks.drop k) = crashA A1 steps ks) ∧ Aside0 (Ai.1.length ≤ A1.1.length + k))
    (fun i _ => steps.length - (intOf i).toNat)
  case atStart => exact ⟨0, m', A1, Nat.zero_le _, rfl, ⟨q1⟩, ⟨q2⟩, ⟨q3⟩, ⟨rfl⟩, ⟨Nat.le_refl _⟩⟩
  case round =>
    clear q1 q2 q3
    obtain ⟨k, m3, Ai, hkl, rfl, HSr, HVr, HOr, HCr, HLr⟩ := hrel
    have hbr : base ≤ wr.heap.size := Nat.le_trans hbase HVr.out.b.size
    by_cases hlt : k < steps.length
    · obtain ⟨fs, hRr, hfr⟩ := HSr.out.hl
      obtain ⟨f, s, ef, es, hf⟩ := all2_at hfr hlt
      obtain ⟨ad, ck, rfl, hckl, hK, hcell⟩ := Kd.C_get (Kd.R_reads' hRr).2.2 [] (k : Int) (by omega) (by rw [List.length_map, hfr.length]; omega)
      have hf1 : ck = [f] := by
        have h_ := hK.1
        rw [Int.toNat_natCast, List.getD_eq_getElem?_getD, List.getElem?_map, ef] at h_
        exact h_
      subst hf1
      have hc0 : wr.cell? (ad.add k) = some f := by
        have h_ := hcell 0 f rfl
        have h2_ : wr.cell? (ad.add ((k : Int).toNat * 1 + 0)) = some f := h_
        rwa [Int.toNat_natCast, Nat.mul_one, Nat.add_zero] at h2_
      have HSC := Aside0.mk (step_call HSr.out hf (by have := HLr.out; omega) hbr)
      have HES := Aside0.mk es
      clear hRr hfr ef es hf hckl hK hcell
      have hlt' : (k : Int) < (steps.length : Int) := by omega
      by_cases hkk : k < ks.length
      · obtain ⟨ad2, rfl, hb0⟩ := Kd.at_bool (HK.out wr HVr.out.k) (k : Int) (by omega) (by omega)
        rw [Int.toNat_natCast] at hb0
        have hkk' : (k : Int) < (ks.length : Int) := by omega
        have eks : ks.drop k = rdOf false ks (k : Int) :: ks.drop (k + 1) := by
          unfold rdOf
          rw [Int.toNat_natCast, List.drop_eq_getElem_cons hkk, List.getD_eq_getElem?_getD, List.getElem?_eq_getElem hkk]; rfl
        have HEK := Aside0.mk eks
        clear eks
        rcases hbv : rdOf false ks (k : Int) with _ | _
        · rw [hbv] at hb0
          have HBV := Aside0.mk hbv
          clear hbv
          go_wp2_with fail
          go_roundw
          case measure => simp [intOf]; omega
          case rel => exact ⟨k + 1, m3, Ai, by omega, by go_num, HSr, HVr, HOr, ⟨by rw [← HCr.out, HES.out, HEK.out, HBV.out]; rfl⟩, ⟨by have := HLr.out; omega⟩⟩
        · rw [hbv] at hb0
          have HBV := Aside0.mk hbv
          clear hbv
          have happ : ∀ s : Step, (app s Ai).1.length ≤ Ai.1.length + 1 := by
            intro s
            cases s <;> simp [app]
          have HAP := Aside0.mk (happ s)
          clear happ
          rcases HSC.out with ⟨bb, bi, rfl, hc⟩ | ⟨bb, rfl, hc⟩ | ⟨rfl, hc⟩
          all_goals
            clear HSC
            have HCC := Aside0.mk hc
            clear hc
            go_wp2_with fail
            refine HCC.out.mono ?_
            rintro e w3 ⟨⟨rv, rfl⟩, m4, hS3, hV3, hO3⟩
            have HS3 := Aside0.mk hS3
            have HV3 := Aside0.mk (HVr.out.trans hV3 (fun k q => HOr.out k q))
            have HO3 := Aside0.mk (fun k q => (hO3 k q).elim (fun q => HOr.out k q) (fun q => (.inr (Nat.le_trans HVr.out.b.size q) : Own g m1 m2 (.slice (some ad) steps.length cl) k ∨ w.heap.size ≤ k)))
            clear hS3 hV3 hO3
            go_wp2_with fail
            go_roundw
            case measure => simp [intOf]; omega
            case rel => exact ⟨k + 1, m4, app s Ai, by omega, by go_num, HS3, HV3, HO3, ⟨by rw [← HCr.out, HES.out, HEK.out, HBV.out]; rfl⟩, ⟨by have := HLr.out; have := HAP.out; omega⟩⟩
      · have hkk' : ¬ (k : Int) < (ks.length : Int) := by omega
        go_wp2_with fail
        go_roundw
        case measure => simp [intOf]; omega
        case rel => exact ⟨k + 1, m3, Ai, by omega, by go_num, HSr, HVr, HOr, ⟨by rw [← HCr.out, List.drop_of_length_le (show ks.length ≤ k + 1 by omega), List.drop_of_length_le (show ks.length ≤ k by omega), crashA_none, crashA_none]⟩, ⟨by have := HLr.out; omega⟩⟩
    · have hlt' : ¬ (k : Int) < (steps.length : Int) := by omega
      have hAi : Ai = crashA A1 steps ks := by
        rw [← HCr.out, List.drop_of_length_le (show steps.length ≤ k by omega), crashA_nil]
      have HAI := Aside0.mk hAi
      clear hAi
      have HF := Aside0.mk (keep_flush wr base g m1 m3 _ A1 Ai steps HSr.out hbr)
      go_wp2_with fail
      refine HF.out.mono ?_
      rintro e w4 ⟨⟨rv, rfl⟩, m5, hS4, hV4, hO4⟩
      rw [HAI.out] at hS4
      have HS4 := Aside0.mk hS4
      have HV4 := Aside0.mk (HVr.out.trans hV4 (fun k q => HOr.out k q))
      have HO4 := Aside0.mk (fun k q => (hO4 k q).elim (fun q => HOr.out k q) (fun q => (.inr (Nat.le_trans HVr.out.b.size q) : Own g m1 m2 (.slice Al steps.length cl) k ∨ w.heap.size ≤ k)))
      clear hS4 hV4 hO4
      go_wp2
      go_end0
      exact ⟨⟨_, rfl⟩, m5, m3, HS4.out, HV4.out, HO4.out⟩
end Go.Proofs.Ytliohoalackhiaa.T
namespace Go.Proofs.Ytliohoalackhiaa.T
open Go.ChangeMaps hiding rd
open Go.RowKit Go.Maps Go.Proofs.YtliohoalackhiaaW.PrintWords Go.Proofs.YtliohoalackhiaaW.PrintLast Go.Proofs.YtliohoalackhiaaW.PrintMore Go.Proofs.Ytliohoalackhiaa.Num
set_option linter.unusedVariables false
set_option linter.unusedSimpArgs false
theorem all2_any {w : World} {vals : List (Int × Value)} {H : Hist} (h : All2 (fun p q => p.1 = q.1 ∧ Rd w p.2 q.2) vals H) (i : Int) : vals.any (fun p => p.1 == i) = (getA H i).isSome := by
  rw [any_find]
  rcases get_all2 h i with ⟨p, xs, e1, e2, _⟩ | ⟨e1, e2⟩
  · rw [e1, e2]; rfl
  · rw [e1, e2]; rfl
theorem getA_range {H : Hist} (hb : ∀ p ∈ H, 0 ≤ p.1 ∧ p.1 < 512) {i : Int} (h : (getA H i).isSome = true) : 0 ≤ i ∧ i < 512 := by
  unfold getA at h
  rw [Option.isSome_map] at h
  obtain ⟨p, hp⟩ := Option.isSome_iff_exists.1 h
  have h1 := List.find?_some hp
  have h2 := List.mem_of_find?_eq_some hp
  have := hb p h2
  simp at h1
  omega
theorem same_int (i x : Int) : (Lit.int .i64 i).sameKey (.int .i64 x) = decide (i = x) := by
  by_cases h : i = x
  · subst h
    rw [decide_eq_true rfl]
    exact WideAt.sameKey_self (by trivial)
  · rw [decide_eq_false h]
    cases hs : (Lit.int .i64 i).sameKey (.int .i64 x) with
    | false => rfl
    | true => have := WideAt.sameKey_eq hs; cases this; exact absurd rfl h
theorem ranges_step {H : Type} {P : Program} {k : TypeId} {R : Value → Option (DataW H × List MemPlace)} {w w' : World} {b r n : Nat} {D : DataW H} {left : Lit → Bool} {cnt : Nat} (h : w.ranges P k R b r n D left cnt) (hb : Below w.heap.size w w') : w'.ranges P k R b r n D left cnt := by
  have h1 := h.owns.lt
  have h2 := h.lt
  obtain ⟨es, clock, since, seen, c0, e1, F, hs, hD, e2, rest⟩ := h
  exact ⟨es, clock, since, seen, c0, (hb.block b h1).trans e1, F, hs, hD, (hb.block r h2).trans e2, rest⟩
theorem ranges_R {H : Type} {P : Program} {k : TypeId} {R : Value → Option (DataW H × List MemPlace)} {w w' : World} {b r n : Nat} {D : DataW H} {left : Lit → Bool} {cnt : Nat} (h : w.ranges P k R b r n D left cnt) {base : Nat} {v : Value} {l : List Int} (hR : Kd.R (Kd.int .u8) 5 w base (fun _ => True) v l) (hg : w.grownBy w' (some r)) : Kd.R (Kd.int .u8) 5 w' base (fun _ => True) v l := by
  refine Kd.R_mono (Kd.R_step (Kd.R_tight rfl hR) (fun k hk hlt => hg.block k hlt (fun e => ?_))) (fun _ _ => trivial)
  injection e with e
  subst e
  obtain ⟨cells, hc⟩ := Kd.R_typed hR k hk.symm
  obtain ⟨es, clock, since, seen, c0, e1, F, hs, hD, e2, rest⟩ := h
  rw [hc] at e2
  cases e2
set_option maxRecDepth 100000 in
set_option maxHeartbeats 4000000 in
theorem keep_held (w : World) (base g m1 m2 : Nat) (lo : Value) (A1 A2 : Hist × List Int) (steps : List Step) (h : Sto w base g m1 m2 lo A1 A2 steps) :
    Calls Try.prog 18 #[.pointer (some ⟨g, 0, none⟩)] w fun e w' => ∃ v l, e = .returned v ∧ Kd.R (Kd.int .u8) 5 w' w.heap.size (fun _ => True) v l ∧ l.length = 64 ∧ Bytes l ∧ (∀ i, i < 512 → B l i = (getA A2.1 (i : Int)).isSome) ∧ Below w.heap.size w w' := by
  have HS := Aside0.mk h
  have law : Keyed Try.prog 3 := int_keyed Try.underlying3
  obtain ⟨⟨t1, t2, hgc, r1, r2⟩, h1, ⟨vals, ho, hv, hbd⟩, ne, bg, b1, b2, hl⟩ := h
  have hany : ∀ i : Int, Maps.has (kindD vals) (.int .i64 i) = (getA A2.1 i).isSome := fun i => by rw [kindD_has, all2_any hv i]
  have HANY := Aside0.mk hany
  have HBD := Aside0.mk hbd
  have HG := Aside0.mk hgc
  have HO := Aside0.mk ho
  clear hgc r1 r2 h1 ho hv hbd ne bg b1 b2 hl hany
  go_enter Try.func18, Try.ntmps18
  go_wp2_with fail
  refine (bits_Make.calls 512 (List.replicate 64 0) w (make_nat (n := 512) (by omega))).mono ?_
  rintro e w1 ⟨v0, rfl, hR, hb⟩
  obtain ⟨A0, c0, ev⟩ := Kd.R_slice hR
  subst ev
  have HR := Aside0.mk hR
  have HB := Aside0.mk hb
  have hg1 := blk_below HG.out hb
  have d2 : w1.cell? ⟨g, 2, none⟩ = some (.map (some m2)) := (blk_cell hg1 2).trans rfl
  have HO1 := Aside0.mk (ownsMap_step HO.out (hb.block m2 HO.out.lt))
  clear hR hb hg1
  obtain ⟨l0, hl0⟩ : ∃ l0 : List Int, List.replicate 64 0 = l0 := ⟨_, rfl⟩
  have hl64 : l0.length = 64 := by rw [← hl0, List.length_replicate]
  rw [hl0] at HR ⊢
  have HL64 := Aside0.mk hl64
  clear hl64
  have HZ : Aside0 (Bytes l0 ∧ ∀ i, B l0 i = false) := ⟨by rw [← hl0]; exact ⟨Bytes.zeros 64, B_zeros 64⟩⟩
  clear hl0
  go_wp2_with (at_range; refine wpList_range_own _ rfl _ 107 rfl 3 22 law Try.underlying107 asIs m2 _ _ rfl HO1.out ?_; intro w2 hrg hg hs)
  obtain ⟨rI, hrI⟩ : ∃ r, w1.heap.size = r := ⟨_, rfl⟩
  have hrw : w.heap.size ≤ rI := by rw [← hrI]; exact HB.out.size
  have HB2 : Aside0 (Below w.heap.size w w2) := ⟨HB.out.grown hg HB.out.size (fun k e => by cases e)⟩
  have HR2 := Aside0.mk (Kd.R_grown HR.out hg (fun _ _ => by simp))
  rw [hrI] at hrg ⊢
  have HRG := Aside0.mk hrg
  clear hrg hg hs hrI HB HR HO1 d2
  go_frame
  go_loopw [3] (fun out wr => ∃ (left : Lit → Bool) (cnt : Nat) (A : Option Addr) (c : Nat) (l : List Int), out = .slice A l.length c ∧ Aside0 (wr.ranges Try.prog 3 asIs m2 rI A2.1.length (kindD vals) left cnt) ∧ Aside0 (Kd.R (Kd.int .u8) 5 wr w.heap.size (fun _ => True) (.slice A l.length c) l) ∧ Aside0 (l.length = 64 ∧ Bytes l ∧ ∀ i, i < 512 → B l i = ((getA A2.1 (i : Int)).isSome && !left (.int .i64 (i : Int)))) ∧ Aside0 (Below w.heap.size w wr) ∧ Aside0 (∀ i : Int, left (.int .i64 i) = true → (getA A2.1 i).isSome = true))
    (fun _ wr => wr.rangeLeft m2 rI)
  case atStart =>
    exact ⟨_, _, A0, c0, l0, rfl, HRG, ⟨Kd.R_lower HR2.out (Nat.le_refl _)⟩, ⟨HL64.out, HZ.out.1, fun i hi => by rw [HZ.out.2, HANY.out]; simp⟩, HB2, ⟨fun i hi => by rw [HANY.out] at hi; exact hi⟩⟩
  case round =>
    obtain ⟨left, cnt, A, c, l, rfl, HRr, HOr, HLr, HBr, HFr⟩ := hrel
    go_wp2_with (at_next; refine wpList_next_ranges _ rfl _ rfl 3 law asIs (Value.int .i64) (fun v : Value => v) (fun key kl hkey => by obtain ⟨x, rfl, _⟩ := Maps.keyOf_int_inv Try.underlying3 hkey; exact ⟨x, rfl⟩) (fun v y hv => ⟨v, rfl⟩) m2 rI _ _ left cnt rfl HRr.out ?_ ?_)
    case refine_1 =>
      intro hc0 hl0
      have HL0 := Aside0.mk hl0
      clear hl0
      go_wp2
      go_ret
      exact ⟨_, l, rfl, HOr.out, HLr.out.1, HLr.out.2.1, fun i hi => by rw [HLr.out.2.2 i hi, HL0.out]; simp, HBr.out⟩
    case refine_2 =>
      intro x cv kl y ps w3 cnt3 hkey hlk hv hat hrg hlt hg hsz hen
      obtain ⟨x', ex, rfl, hwx⟩ := Maps.keyOf_int_inv Try.underlying3 hkey
      cases ex
      have hx := getA_range HBD.out (HFr.out x hlk)
      have HX := Aside0.mk hx
      have HHAS := Aside0.mk (HFr.out x hlk)
      have HR3 := Aside0.mk (ranges_R HRr.out HOr.out hg)
      have HRG3 := Aside0.mk hrg
      have HB3 : Aside0 (Below w.heap.size w w3) := ⟨HBr.out.grown hg HBr.out.size (fun k e => by injection e with e; omega)⟩
      have HLT := Aside0.mk hlt
      clear hkey hlk hv hat hrg hlt hg hsz hx hwx
      go_wp2_with fail
      refine (bits_Set.calls A c l x (setB l x.toNat) w3 (Kd.R_reads' HR3.out).2.2 (Kd.R_reads' HR3.out).2.1 (by rw [set_eq HLr.out.2.1 (by have := HLr.out.1; omega) (by have := HX.out; omega), if_pos HX.out.1])).mono ?_
      rintro e w4 ⟨v4, rfl, hR4, hb4⟩
      obtain ⟨A4, c4, ev4⟩ := Kd.R_slice hR4
      subst ev4
      have HR4 := Aside0.mk (Kd.R_lower hR4 HB3.out.size)
      have HB4 := Aside0.mk (below_step HB3.out hb4)
      have HRG4 := Aside0.mk (ranges_step HRG3.out hb4)
      clear hR4 hb4 hen
      go_wp2_with fail
      go_roundw
      case measure => rw [HRG4.out.left_eq, HRr.out.left_eq]; exact HLT.out
      case rel =>
        refine ⟨_, cnt3, A4, c4, setB l x.toNat, rfl, HRG4, HR4, ⟨by rw [setB_length]; exact HLr.out.1, setB_bytes HLr.out.2.1 _, fun i hi => ?_⟩, HB4, ⟨fun i hi => ?_⟩⟩
        · rw [B_set, HLr.out.2.2 i hi, same_int, HLr.out.1]
          have hxx := HX.out
          have hh := HHAS.out
          by_cases e : (i : Int) = x
          · have e2 : x.toNat = i := by omega
            rw [e2, decide_eq_true (show i = i ∧ i < 8 * 64 from ⟨rfl, by omega⟩), decide_eq_true e, e, hh]; simp
          · rw [decide_eq_false (show ¬ (x.toNat = i ∧ x.toNat < 8 * 64) from fun q => e (by omega)), decide_eq_false e]; simp
        · rw [Bool.and_eq_true] at hi
          exact HFr.out i hi.1
end Go.Proofs.Ytliohoalackhiaa.T
namespace Go.Proofs.Ytliohoalackhiaa.T
open Go.ChangeMaps hiding rd
open Go.RowKit Go.Maps Go.Proofs.YtliohoalackhiaaW.PrintWords Go.Proofs.YtliohoalackhiaaW.PrintLast Go.Proofs.YtliohoalackhiaaW.PrintMore Go.Proofs.Ytliohoalackhiaa.Num
set_option linter.unusedVariables false
set_option linter.unusedSimpArgs false
theorem C_lit {k : IntKind} {w : World} {g : Nat} {t : TypeId} (l : List Int) {cs : Array Value} {fr : Nat × Nat} (h : w.heap[g]? = some (.cells cs t fr)) (hcs : cs = (l.map (Value.int k)).toArray) (hl : l.length ≤ 9223372036854775807) : Kd.C (Kd.int k) w (some ⟨g, 0, none⟩) l.length l := by
  subst hcs
  refine ⟨rfl, hl, fun _ => ⟨⟨g, 0, none⟩, rfl, fun j p hj => ⟨[.int k p], rfl, rfl, fun i u hu => ?_⟩⟩⟩
  have hi0 : i = 0 := by
    have := (List.getElem?_eq_some_iff.1 hu).1
    simpa using this
  subst hi0
  have hu' : u = .int k p := by simpa using hu.symm
  subst hu'
  show w.cell? ((⟨g, 0, none⟩ : Addr).add (j * 1 + 0)) = _
  rw [add_at, Nat.mul_one, Nat.add_zero, Nat.zero_add]
  simp [World.cell?, h, hj]
theorem B_lit {w : World} {g : Nat} {t : TypeId} (l : List Bool) {cs : Array Value} {fr : Nat × Nat} (h : w.heap[g]? = some (.cells cs t fr)) (hcs : cs = (l.map Value.bool).toArray) (hl : l.length ≤ 9223372036854775807) : Kd.C Kd.bool w (some ⟨g, 0, none⟩) l.length l := by
  subst hcs
  refine ⟨rfl, hl, fun _ => ⟨⟨g, 0, none⟩, rfl, fun j p hj => ⟨[.bool p], rfl, rfl, fun i u hu => ?_⟩⟩⟩
  have hi0 : i = 0 := by
    have := (List.getElem?_eq_some_iff.1 hu).1
    simpa using this
  subst hi0
  have hu' : u = .bool p := by simpa using hu.symm
  subst hu'
  show w.cell? ((⟨g, 0, none⟩ : Addr).add (j * 1 + 0)) = _
  rw [add_at, Nat.mul_one, Nat.add_zero, Nat.zero_add]
  simp [World.cell?, h, hj]
theorem Mv.lift {w0 w w1 : World} {base g m1 m2 : Nat} {lo : Value} {A1 A2 : Hist × List Int} {steps : List Step} (mv : Mv w w1 (Own g m1 m2 lo)) (hs : Sto w base g m1 m2 lo A1 A2 steps) (hb : Below base w0 w) (hbase : base ≤ w.heap.size) : Below base w0 w1 ∧ base ≤ w1.heap.size :=
  ⟨mv.then_below hb hbase (fun k q => hs.base q), Nat.le_trans hbase mv.b.size⟩
theorem blk_newf (w : World) (cs : Array Value) (t : TypeId) (fr : Nat × Nat) : (w.alloc (.cells cs t fr)).heap[w.heap.size]? = some (.cells cs t fr) := by
  show (w.heap.push (.cells cs t fr))[w.heap.size]? = _
  simp
set_option maxRecDepth 100000 in
set_option maxHeartbeats 4000000 in
theorem keep_known (w : World) : Calls Try.prog 14 #[] w fun e w' => e = .returned (.bool true) ∧ Below w.heap.size w w' := by
  have kc := fun (w : World) (C : Array Value) (n c : Nat) => Lib.run_convert_bytes_const (P := Try.prog) w 22 5 C n c Try.underlying22 Try.underlying5
  go_enter Try.func14, Try.ntmps14
  go_wp2_with fail
  refine (keep_new w).mono ?_
  rintro e w1 ⟨g, m1, m2, rfl, hS, hb⟩
  have HS := Aside0.mk hS
  have HB := Aside0.mk hb
  clear hS hb
  go_wp2_with fail
  have hb0 := below_alloc (Below.refl w1.heap.size w1) (.cells #[.int .u8 97] 5 (1, 2))
  have hc0 := C_lit (k := .u8) [97] (blk_newf w1 #[.int .u8 97] 5 (1, 2)) rfl (by simp)
  generalize w1.alloc (.cells #[.int .u8 97] 5 (1, 2)) = wx at hb0 hc0 ⊢
  have HSx := Aside0.mk (HS.out.below hb0)
  have HBx := Aside0.mk (below_step HB.out hb0)
  clear HS HB
  refine (keep_put wx w.heap.size g _ _ _ _ _ _ HSx.out HBx.out.size (by simp) (by simp) 0 _ 1 [97] hc0 (by simp) (by omega) (by simp)).mono ?_
  rintro e w2 ⟨rfl, m21, lo1, hS, hV, _⟩
  have HS := Aside0.mk (show Sto w2 w.heap.size g _ _ _ ([], []) ([(0, [97])], []) [.put 0 [97]] from hS)
  have HB := Aside0.mk (hV.lift HSx.out HBx.out HBx.out.size).1
  clear hS hV hb0 hc0 HSx HBx
  go_wp2_with fail
  refine (keep_crash w2 w.heap.size g _ _ _ _ _ _ HS.out HB.out.size (by simp) none 0 [] (fun w' _ => Kd.C_nil _ _) (Nat.le_refl _)).mono ?_
  rintro e w3 ⟨⟨rv2, rfl⟩, m1c2, m2c2, hS, hV, _⟩
  have HSn := Aside0.mk (show Sto w3 w.heap.size g _ _ _ ([], []) ([], []) [] from hS)
  have HBn := Aside0.mk (hV.lift HS.out HB.out HB.out.size).1
  clear hS hV HS HB
  have HS := HSn
  have HB := HBn
  clear HSn HBn
  go_wp2_with fail
  refine (keep_get w3 w.heap.size g _ _ _ _ _ _ HS.out 0 (wf_i64 (by omega)) (by decide)).mono ?_
  rintro e w4 ⟨v3, hv_, hR, hb⟩
  obtain rfl : e = .returned (.tuple #[v3, .bool false]) := hv_
  obtain ⟨A3, c3, e3⟩ := Kd.R_slice hR
  subst e3
  have HR3 := Aside0.mk hR
  have HSn := Aside0.mk (HS.out.below hb)
  have HBn := Aside0.mk (below_step HB.out hb)
  clear hR hb HS HB
  have HS := HSn
  have HB := HBn
  clear HSn HBn
  go_wp2_with fail
  have hb0 := below_alloc (Below.refl w4.heap.size w4) (.cells #[.int .u8 97] 5 (1, 2))
  have hc0 := C_lit (k := .u8) [97] (blk_newf w4 #[.int .u8 97] 5 (1, 2)) rfl (by simp)
  generalize w4.alloc (.cells #[.int .u8 97] 5 (1, 2)) = wx at hb0 hc0 ⊢
  have HSx := Aside0.mk (HS.out.below hb0)
  have HBx := Aside0.mk (below_step HB.out hb0)
  clear HS HB
  refine (keep_put wx w.heap.size g _ _ _ _ _ _ HSx.out HBx.out.size (by simp) (by simp) 0 _ 1 [97] hc0 (by simp) (by omega) (by simp)).mono ?_
  rintro e w5 ⟨rfl, m24, lo4, hS, hV, _⟩
  have HS := Aside0.mk (show Sto w5 w.heap.size g _ _ _ ([], []) ([(0, [97])], []) [.put 0 [97]] from hS)
  have HB := Aside0.mk (hV.lift HSx.out HBx.out HBx.out.size).1
  clear hS hV hb0 hc0 HSx HBx
  go_wp2_with fail
  refine (keep_flush w5 w.heap.size g _ _ _ _ _ _ HS.out HB.out.size).mono ?_
  rintro e w6 ⟨⟨rv5, rfl⟩, m1f5, hS, hV, _⟩
  have HSn := Aside0.mk (show Sto w6 w.heap.size g _ _ _ ([(0, [97])], []) ([(0, [97])], []) [] from hS)
  have HBn := Aside0.mk (hV.lift HS.out HB.out HB.out.size).1
  clear hS hV HS HB
  have HS := HSn
  have HB := HBn
  clear HSn HBn
  go_wp2_with fail
  refine (keep_crash w6 w.heap.size g _ _ _ _ _ _ HS.out HB.out.size (by simp) none 0 [] (fun w' _ => Kd.C_nil _ _) (Nat.le_refl _)).mono ?_
  rintro e w7 ⟨⟨rv6, rfl⟩, m1c6, m2c6, hS, hV, _⟩
  have HSn := Aside0.mk (show Sto w7 w.heap.size g _ _ _ ([(0, [97])], []) ([(0, [97])], []) [] from hS)
  have HBn := Aside0.mk (hV.lift HS.out HB.out HB.out.size).1
  clear hS hV HS HB
  have HS := HSn
  have HB := HBn
  clear HSn HBn
  go_wp2_with fail
  refine (keep_get w7 w.heap.size g _ _ _ _ _ _ HS.out 0 (wf_i64 (by omega)) (by decide)).mono ?_
  rintro e w8 ⟨v7, hv_, hR, hb⟩
  obtain rfl : e = .returned (.tuple #[v7, .bool true]) := hv_
  have hR : Kd.R (Kd.int .u8) 5 w8 w7.heap.size (fun _ => True) v7 [97] := hR
  have hstr := own_string (P := Try.prog) Try.underlying22 Try.underlying5 Try.underlying9 (Kd.own_of_R hR)
  have HR7 := Aside0.mk hR
  have HSn := Aside0.mk (HS.out.below hb)
  have HBn := Aside0.mk (below_step HB.out hb)
  clear hR hb HS HB
  have HS := HSn
  have HB := HBn
  clear HSn HBn
  have hs97 : ((strOfNums [97]).toList == ([97] : List UInt8)) = true := by first | rfl | (simp [strOfNums]; done) | decide +kernel | kernel_rfl
  go_wp2_with fail
  refine (keep_loose w8 w.heap.size g _ _ _ _ _ _ HS.out).mono ?_
  rintro e w9 ⟨he, rfl⟩
  obtain rfl : e = .returned (.int .i64 0) := he
  go_wp2
  go_ret
  exact ⟨rfl, HB.out⟩
end Go.Proofs.Ytliohoalackhiaa.T
