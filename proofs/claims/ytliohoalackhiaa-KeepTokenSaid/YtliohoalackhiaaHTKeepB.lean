/- A store in memory: what is there, what lasts, the steps that do not yet; keep.New and the three kinds of steps. -/
import Derived.Maps.OwnSet
import Derived.Shelf.RegionOpen
import Derived.WalkKit
import Derived.Lib.Hide
import Derived.OpenShut
import Derived.WalkLawsBesides
import Derived.Test.YtliohoalackhiaaHTx0
import Derived.Test.YtliohoalackhiaaHTgClone
import Derived.Test.YtliohoalackhiaaHW
import Derived.StillTailTactics
import Derived.Shelf.SlMaps.Clone
namespace Go.Proofs.Ytliohoalackhiaa.T
open Go.ChangeMaps hiding rd
open Go.RowKit Go.Maps Go.Proofs.YtliohoalackhiaaW.PrintWords Go.Proofs.YtliohoalackhiaaW.PrintLast Go.Proofs.YtliohoalackhiaaW.PrintMore
set_option linter.unusedVariables false
set_option linter.unusedSimpArgs false
/-- a map's elements, each as it is -/
def asIs (v : Value) : Option (DataW Value × List MemPlace) := some (.held v, [])
theorem ikey {t : Nat} {q : IntKind} (ht : Try.prog.underlying t = some (.int q)) (x : Int) (h : (Lit.int q x).wf = true) : keyOf Try.prog t (.int q x) = some (.int q x) := keyOf_int_mk ht h
def kindD : List (Int × Value) → DataW Value
  | [] => .map []
  | (k, v) :: t => (kindD t).put (.int .i64 k) (.held v)
theorem kindD_map : ∀ l, IsMap (kindD l)
  | [] => ⟨[], rfl⟩
  | (k, v) :: t => (kindD_map t).put _ _
theorem kindD_at (k : Int) (z : DataW Value) : ∀ l : List (Int × Value), (kindD l).atKey (.int .i64 k) z = match l.find? (fun p => p.1 == k) with | some p => .held p.2 | none => z
  | [] => rfl
  | (j, v) :: t => by
    by_cases h : j = k
    · subst h
      rw [kindD, atKey_put_same (kindD_map t) (by trivial)]
      simp
    · rw [kindD, atKey_put_other (fun e => h (by cases e; rfl)), kindD_at k z t]
      have : ((j, v).1 == k) = false := beq_eq_false_iff_ne.mpr h
      rw [List.find?_cons, this]
theorem kindD_has (k : Int) : ∀ l : List (Int × Value), Maps.has (kindD l) (.int .i64 k) = l.any (fun p => p.1 == k)
  | [] => rfl
  | (j, v) :: t => by
    by_cases h : j = k
    · subst h
      rw [kindD, has_put_same (kindD_map t) (by trivial)]
      simp
    · rw [kindD, has_put_other (fun e => h (by cases e; rfl)), kindD_has k t]
      have : ((j, v).1 == k) = false := beq_eq_false_iff_ne.mpr h
      rw [List.any_cons, this]; rfl
/-- blocks that are only read: bytes, and what steps hold -/
def Soft (w : World) (k : Nat) : Prop := ∃ cs t, w.heap[k]? = some (.cells cs t (0, 0)) ∧ (t = 5 ∨ t = 22 ∨ t = 3)
theorem Soft.lt {w : World} {k : Nat} (h : Soft w k) : k < w.heap.size := by
  obtain ⟨cs, t, h, _⟩ := h
  exact blk_lt h
theorem Soft.step {w w' : World} {k : Nat} (h : Soft w k) (hm : w'.heap[k]? = w.heap[k]?) : Soft w' k := by
  obtain ⟨cs, t, h, ht⟩ := h
  exact ⟨cs, t, hm.trans h, ht⟩
/-- what a world keeps of another one: all that is only read -/
def SoftKept (w w' : World) : Prop := ∀ k, Soft w k → w'.heap[k]? = w.heap[k]?
/-- a row of bytes that is only read -/
def Rd (w : World) (v : Value) (xs : List Int) : Prop := ∃ A c, v = .slice A xs.length c ∧ xs.length ≤ c ∧ Kd.F (Kd.int .u8) w (Soft w) A xs.length xs
theorem Rd.step {w w' : World} {v : Value} {xs : List Int} (h : Rd w v xs) (hm : SoftKept w w') : Rd w' v xs := by
  obtain ⟨A, c, e, hl, hF⟩ := h
  exact ⟨A, c, e, hl, Kd.F_mono (Kd.F_step (Kd.F_bound hF) (fun k hk _ => hm k hk.1)) (fun k hk => hk.1.step (hm k hk.1))⟩
theorem Rd.nil (w : World) : Rd w (.slice none 0 0) [] := ⟨none, 0, rfl, Nat.le_refl _, Kd.F_nil _ _ _⟩
theorem Rd.of_R {w : World} {base : Nat} {ok : Nat → Prop} {v : Value} {xs : List Int} (h : Kd.R (Kd.int .u8) 5 w base ok v xs) : Rd w v xs := by
  obtain ⟨A, c, rfl⟩ := Kd.R_slice h
  refine ⟨A, c, rfl, (Kd.R_reads' h).2.1, Kd.F_mono (Kd.R_F (Kd.R_bound h)) (fun k hk => ?_)⟩
  obtain ⟨_, _, _, q, hq, cells, hc⟩ := hk
  have : q = 5 := by simpa [Kd.int, Kd.scalar] using hq
  exact ⟨cells, q, hc, .inl this⟩
theorem Rd.reads {w : World} {v : Value} {xs : List Int} (h : Rd w v xs) : ∃ A c, v = .slice A xs.length c ∧ xs.length ≤ c ∧ Kd.C (Kd.int .u8) w A xs.length xs := by
  obtain ⟨A, c, e, hl, hF⟩ := h
  exact ⟨A, c, e, hl, Kd.F_now hF⟩
/-- two rows, one for one -/
inductive All2 {α β : Type} (R : α → β → Prop) : List α → List β → Prop where
  | nil : All2 R [] []
  | cons {a : α} {b : β} {l : List α} {m : List β} (h : R a b) (t : All2 R l m) : All2 R (a :: l) (b :: m)
theorem All2.length {α β : Type} {R : α → β → Prop} {l : List α} {m : List β} (h : All2 R l m) : l.length = m.length := by
  induction h with
  | nil => rfl
  | cons h t ih => simp [ih]
theorem All2.append {α β : Type} {R : α → β → Prop} {l l' : List α} {m m' : List β} (h : All2 R l m) (h' : All2 R l' m') : All2 R (l ++ l') (m ++ m') := by
  induction h with
  | nil => exact h'
  | cons h t ih => exact .cons h ih
/-- chunks, the newest first -/
abbrev Hist := List (Int × List Int)
def MapIs (w : World) (m : Nat) (H : Hist) : Prop := ∃ vals, w.ownsMap Try.prog 3 asIs m H.length (kindD vals) ∧ All2 (fun p q => p.1 = q.1 ∧ Rd w p.2 q.2) vals H ∧ ∀ p ∈ H, 0 ≤ p.1 ∧ p.1 < 512
theorem ownsMap_step {H : Type} {P : Program} {k : TypeId} {R : Value → Option (DataW H × List MemPlace)} {w w' : World} {b n : Nat} {D : DataW H} (h : w.ownsMap P k R b n D) (hm : w'.heap[b]? = w.heap[b]?) : w'.ownsMap P k R b n D := by
  obtain ⟨es, clock, hb, F, hs, hD⟩ := h
  exact ⟨es, clock, hm.trans hb, F, hs, hD⟩
theorem forall2_imp {α β : Type} {R S : α → β → Prop} (hi : ∀ a b, R a b → S a b) : ∀ {l : List α} {m : List β}, All2 R l m → All2 S l m
  | _, _, .nil => .nil
  | _, _, .cons h t => .cons (hi _ _ h) (forall2_imp hi t)
theorem MapIs.step {w w' : World} {m : Nat} {H : Hist} (h : MapIs w m H) (hs : SoftKept w w') (hm : w'.heap[m]? = w.heap[m]?) : MapIs w' m H := by
  obtain ⟨vals, ho, hv, hb⟩ := h
  exact ⟨vals, ownsMap_step ho hm, forall2_imp (fun _ _ h => ⟨h.1, h.2.step hs⟩) hv, hb⟩
theorem MapIs.lt {w : World} {m : Nat} {H : Hist} (h : MapIs w m H) : m < w.heap.size := by
  obtain ⟨_, ho, _⟩ := h
  exact ho.lt
inductive Step where
  | put (i : Int) (xs : List Int)
  | save (xs : List Int)
  | clear
/-- what a step makes of what is there: chunks, the token's bytes -/
def app : Step → Hist × List Int → Hist × List Int
  | .put i xs, A => ((i, xs) :: A.1, A.2)
  | .save xs, A => (A.1, xs)
  | .clear, _ => ([], [])
/-- a step's function value -/
def IsStep (w : World) (f : Value) : Step → Prop
  | .put i xs => ∃ bb bi v, f = .func (.func 69) #[] #[.pointer (some ⟨bb, 0, none⟩), .pointer (some ⟨bi, 0, none⟩)] ∧ w.heap[bi]? = some (.cells #[.int .i64 i] 3 (0, 0)) ∧ w.heap[bb]? = some (.cells #[v] 22 (0, 0)) ∧ Rd w v xs ∧ 0 ≤ i ∧ i < 512
  | .save xs => ∃ bb v, f = .func (.func 108) #[] #[.pointer (some ⟨bb, 0, none⟩)] ∧ w.heap[bb]? = some (.cells #[v] 22 (0, 0)) ∧ Rd w v xs
  | .clear => f = .func (.func 74) #[] #[]
theorem IsStep.step {w w' : World} {f : Value} {s : Step} (h : IsStep w f s) (hs : SoftKept w w') : IsStep w' f s := by
  cases s with
  | put i xs =>
    obtain ⟨bb, bi, v, e, h1, h2, h3, h4⟩ := h
    exact ⟨bb, bi, v, e, (hs bi ⟨_, _, h1, .inr (.inr rfl)⟩).trans h1, (hs bb ⟨_, _, h2, .inr (.inl rfl)⟩).trans h2, h3.step hs, h4⟩
  | save xs =>
    obtain ⟨bb, v, e, h2, h3⟩ := h
    exact ⟨bb, v, e, (hs bb ⟨_, _, h2, .inr (.inl rfl)⟩).trans h2, h3.step hs⟩
  | clear => exact h
/-- loose steps: their function values -/
def Loose (w : World) (base : Nat) (lo : Value) (steps : List Step) : Prop := ∃ fs : List Value, (Kd.raw 1).R 119 w base (fun _ => True) lo (fs.map fun f => [f]) ∧ All2 (IsStep w) fs steps
theorem Loose.step {w w' : World} {base : Nat} {lo : Value} {steps : List Step} (h : Loose w base lo steps) (hs : SoftKept w w') (hl : ∀ k, lo.ownBlock = some k → w'.heap[k]? = w.heap[k]?) : Loose w' base lo steps := by
  obtain ⟨fs, hR, hf⟩ := h
  exact ⟨fs, Kd.R_mono (Kd.R_step (Kd.R_tight rfl hR) (fun k hk _ => hl k hk.symm)) (fun _ _ => trivial), forall2_imp (fun _ _ h => h.step hs) hf⟩
/-- A STORE AT BLOCK g: what lasts (map m1), what is there (map m2), the loose steps (row lo). -/
structure Sto (w : World) (base g m1 m2 : Nat) (lo : Value) (A1 A2 : Hist × List Int) (steps : List Step) : Prop where
  hg : ∃ t1 t2, w.heap[g]? = some (.cells #[.map (some m1), t1, .map (some m2), t2, lo] 112 (0, 0)) ∧ Rd w t1 A1.2 ∧ Rd w t2 A2.2
  h1 : MapIs w m1 A1.1
  h2 : MapIs w m2 A2.1
  ne : m1 ≠ m2
  bg : base ≤ g
  b1 : base ≤ m1
  b2 : base ≤ m2
  hl : Loose w base lo steps
/-- the blocks that a store writes -/
def Own (g m1 m2 : Nat) (lo : Value) (k : Nat) : Prop := k = g ∨ k = m1 ∨ k = m2 ∨ lo.ownBlock = some k
theorem Sto.step {w w' : World} {base g m1 m2 : Nat} {lo : Value} {A1 A2 : Hist × List Int} {steps : List Step} (h : Sto w base g m1 m2 lo A1 A2 steps) (hs : SoftKept w w') (ho : ∀ k, Own g m1 m2 lo k → w'.heap[k]? = w.heap[k]?) : Sto w' base g m1 m2 lo A1 A2 steps := by
  obtain ⟨⟨t1, t2, hg, r1, r2⟩, h1, h2, ne, bg, b1, b2, hl⟩ := h
  exact ⟨⟨t1, t2, (ho g (.inl rfl)).trans hg, r1.step hs, r2.step hs⟩, h1.step hs (ho m1 (.inr (.inl rfl))), h2.step hs (ho m2 (.inr (.inr (.inl rfl)))), ne, bg, b1, b2, hl.step hs (fun k hk => ho k (.inr (.inr (.inr hk))))⟩
theorem softKept_below {w w' : World} (hb : Below w.heap.size w w') : SoftKept w w' := fun k hk => hb.block k hk.lt
theorem Sto.lt {w : World} {base g m1 m2 : Nat} {lo : Value} {A1 A2 : Hist × List Int} {steps : List Step} (h : Sto w base g m1 m2 lo A1 A2 steps) {k : Nat} (hk : Own g m1 m2 lo k) : k < w.heap.size := by
  obtain ⟨⟨t1, t2, hg, r1, r2⟩, h1, h2, ne, bg, b1, b2, fs, hR, hl⟩ := h
  rcases hk with rfl | rfl | rfl | hk
  · exact blk_lt hg
  · exact h1.lt
  · exact h2.lt
  · exact Kd.R_lt hR k hk
theorem Sto.base {w : World} {base g m1 m2 : Nat} {lo : Value} {A1 A2 : Hist × List Int} {steps : List Step} (h : Sto w base g m1 m2 lo A1 A2 steps) {k : Nat} (hk : Own g m1 m2 lo k) : base ≤ k := by
  obtain ⟨⟨t1, t2, hg, r1, r2⟩, h1, h2, ne, bg, b1, b2, fs, hR, hl⟩ := h
  rcases hk with rfl | rfl | rfl | hk
  · exact bg
  · exact b1
  · exact b2
  · exact Kd.R_base hR k hk
theorem Sto.below {w w' : World} {base g m1 m2 : Nat} {lo : Value} {A1 A2 : Hist × List Int} {steps : List Step} (h : Sto w base g m1 m2 lo A1 A2 steps) (hb : Below w.heap.size w w') : Sto w' base g m1 m2 lo A1 A2 steps :=
  h.step (softKept_below hb) (fun k hk => hb.block k (h.lt hk))
/-- none of them is one of those that are only read -/
theorem MapIs.hard {w : World} {m : Nat} {H : Hist} (h : MapIs w m H) : ¬ Soft w m := by
  obtain ⟨_, ⟨es, clock, hb, _⟩, _⟩ := h
  rintro ⟨cs, t, hc, _⟩
  rw [hb] at hc
  cases hc
theorem Loose.hard {w : World} {base : Nat} {lo : Value} {steps : List Step} (h : Loose w base lo steps) {k : Nat} (hk : lo.ownBlock = some k) : ¬ Soft w k := by
  obtain ⟨fs, hR, _⟩ := h
  obtain ⟨cells, hc⟩ := Kd.R_typed hR k hk
  rintro ⟨cs, t, hc2, ht⟩
  rw [hc] at hc2
  injection hc2 with hc2
  injection hc2 with _ e _
  subst e
  revert ht; decide
/-- what a call leaves as it was: all but these blocks; the machine beside memory is as it was -/
structure Mv (w w' : World) (S : Nat → Prop) : Prop where
  b : Below 0 w w'
  k : Kept w w' S
theorem Mv.refl (w : World) (S : Nat → Prop) : Mv w w S := ⟨Below.refl _ _, Kept.refl _ _⟩
theorem Mv.of_below {w w' : World} (h : Below w.heap.size w w') (S : Nat → Prop) : Mv w w' S := ⟨⟨h.os, h.tape, h.output, h.size, fun _ hk => by omega⟩, Kept.of_below h S⟩
theorem Mv.trans {w w1 w2 : World} {S S2 : Nat → Prop} (h : Mv w w1 S) (h2 : Mv w1 w2 S2) (hs : ∀ k, S2 k → S k ∨ w.heap.size ≤ k) : Mv w w2 S := ⟨h.b.trans h2.b, h.k.then_ h2.k hs⟩
theorem Mv.below {w w1 w2 : World} {S : Nat → Prop} (h : Mv w w1 S) (hb : Below w1.heap.size w1 w2) : Mv w w2 S := h.trans (Mv.of_below hb (fun _ => False)) (fun _ hk => hk.elim)
theorem Mv.mono {w w1 : World} {S S2 : Nat → Prop} (h : Mv w w1 S) (hs : ∀ k, S k → S2 k) : Mv w w1 S2 := ⟨h.b, h.k.mono hs⟩
theorem Mv.then_below {w0 w w1 : World} {base : Nat} {S : Nat → Prop} (h : Mv w w1 S) (hb : Below base w0 w) (hbase : base ≤ w.heap.size) (hs : ∀ k, S k → base ≤ k) : Below base w0 w1 :=
  hb.trans ⟨h.b.os, h.b.tape, h.b.output, h.b.size, fun k hk => h.k.2 k (by omega) (fun q => by have := hs k q; omega)⟩
end Go.Proofs.Ytliohoalackhiaa.T
