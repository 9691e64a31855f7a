/- What an argument of rows of whole numbers reads as: rows, each of its numbers; how much it holds. Conditions: those in each theorem. -/
import Derived.Test.YtliohoalackhiaaRows
import Derived.Test.YtliohoalackhiaaPW
import Derived.Deep.Matrix
import Derived.OpenShut
namespace Go.Proofs.Ytliohoalackhiaa.RowsL
open Go Go.RowKit Go.Deep Go.ChangeShapes Go.WideShapes Go.Proofs.YtliohoalackhiaaW.PrintWords
set_option linter.unusedVariables false
theorem bulk_one {H : Type} (d : DataW H) : 1 ≤ Rows.uptoBulk d := by
  cases d with
  | lit l => cases l <;> simp [Rows.uptoBulk]
  | nil => simp [Rows.uptoBulk]
  | ptr d => simp [Rows.uptoBulk]
  | slice elems spare => simp [Rows.uptoBulk]
  | agg parts => simp [Rows.uptoBulk]
  | iface t d => simp [Rows.uptoBulk]
  | map entries => simp [Rows.uptoBulk]
  | held h => simp [Rows.uptoBulk]
theorem bulk_len {H : Type} (l : List (DataW H)) : l.length ≤ Rows.uptoBulkAll l := by
  induction l with
  | nil => simp [Rows.uptoBulkAll]
  | cons x r ih => have := bulk_one x; simp only [Rows.uptoBulkAll, List.length_cons]; omega
theorem bulk_rows {H : Type} (f : Nat → DataW H) (g : Nat → List Int) (l : List Nat) (h : ∀ r ∈ l, 1 + (g r).length ≤ Rows.uptoBulk (f r)) : l.length + (l.map g).flatten.length ≤ Rows.uptoBulkAll (l.map f) := by
  induction l with
  | nil => simp
  | cons r t ih =>
    have h1 := h r List.mem_cons_self
    have h2 := ih (fun x hx => h x (List.mem_cons_of_mem _ hx))
    simp only [List.map_cons, Rows.uptoBulkAll, List.flatten_cons, List.length_append, List.length_cons]
    omega
theorem bulk_row {H : Type} (k : IntKind) (A : Option Addr) (L : Nat) (zs : List Int) (hL : L ≤ zs.length) (h0 : A = none → zs.length = 0) : 1 + (zs.take L).length ≤ Rows.uptoBulk (intRow (H := H) k A L zs) := by
  cases A with
  | none =>
    have h1 : (zs.take L).length = 0 := by have h := h0 rfl; rw [List.length_take]; omega
    have h2 : Rows.uptoBulk (intRow (H := H) k none L zs) = 1 := rfl
    omega
  | some a =>
    have h1 := bulk_len (lits (H := H) k (zs.take L))
    have h2 : (lits (H := H) k (zs.take L)).length = (zs.take L).length := by simp [lits]
    have h3 : Rows.uptoBulk (intRow (H := H) k (some a) L zs) = Rows.uptoBulkAll (lits (H := H) k (zs.take L)) + Rows.uptoBulkAll (lits (H := H) k (zs.drop L)) + 1 := by simp only [intRow, Rows.uptoBulk]
    omega
/-- an argument of rows -/
theorem open_rows {H : Type} {enc : TypeId × Value → H} {P : Program} {W : World} {base : Nat} {held : Bool} {t e q : TypeId} {k : IntKind} (ht : P.underlying t = some (.slice e)) (he : P.underlying e = some (.slice q)) (hq : P.underlying q = some (.int k)) (ce : P.cellsOf e = 1) (cq : P.cellsOf q = 1)
    {a : Option Addr} {len cap : Nat} {d : DataW H} {ps : List MemPlace} (h : DataW.Trod enc P W base (fun _ => true) held t (.slice a len cap) d ps) :
    ∃ zs : List (List Int), len = zs.length ∧ zs.length ≤ cap ∧ Kd.C (Kd.slice q (Kd.int k)) W a zs.length zs ∧ (∀ s ∈ zs, ∀ x ∈ s, (Lit.int k x).wf = true) ∧ zs.length + zs.flatten.length ≤ Rows.uptoBulk d := by
  obtain ⟨fuel, hf⟩ := h
  rcases open_int_rows ht he hq ce cq hf with ⟨hcs, hx⟩ | ⟨a', len', cap', A, L, C, Z, hcs, _, hl, hm, hx, hr⟩
  · simp [Value.cells] at hcs
    obtain ⟨rfl, rfl, rfl⟩ := hcs
    obtain ⟨rfl, _⟩ := Prod.mk.inj hx
    exact ⟨[], rfl, Nat.le_refl _, Kd.C_nil _ _, fun s hs => (by cases hs), by simp [Rows.uptoBulk]⟩
  · simp [Value.cells] at hcs
    obtain ⟨rfl, rfl, rfl⟩ := hcs
    obtain ⟨rfl, _⟩ := Prod.mk.inj hx
    have hM : maxLen ≤ 9223372036854775807 := by unfold maxLen; omega
    refine ⟨(List.range len).map fun r => (Z r).take (L r), by simp, by simpa using hl, ?_, ?_, ?_⟩
    · refine ⟨by simp, by simp; omega, fun _ => ⟨a', rfl, fun j p hj => ?_⟩⟩
      have hjl : j < len := by
        have := (List.getElem?_eq_some_iff.1 hj).1
        simpa using this
      have hp : p = (Z j).take (L j) := by
        rw [List.getElem?_map, List.getElem?_range hjl] at hj
        simpa using hj.symm
      subst hp
      obtain ⟨hc, h1, h2, h3, h4, h5, h6⟩ := hr j (by omega)
      have hlen : ((Z j).take (L j)).length = L j := by rw [List.length_take]; omega
      refine ⟨[.slice (A j) ((Z j).take (L j)).length (C j)], rfl, ⟨A j, C j, rfl, by omega, ?_⟩, fun i u hu => ?_⟩
      · refine ⟨rfl, by omega, fun hn => ?_⟩
        cases hA : A j with
        | none => have := h5 hA; omega
        | some a2 =>
          obtain ⟨_, hcell⟩ := h6 a2 hA
          refine ⟨a2, rfl, fun i x hi => ?_⟩
          have hil : i < L j := by
            have := (List.getElem?_eq_some_iff.1 hi).1
            omega
          refine ⟨[.int k x], rfl, rfl, fun i2 u hu => ?_⟩
          have hi2 : i2 = 0 := by
            have := (List.getElem?_eq_some_iff.1 hu).1
            simpa using this
          subst hi2
          have hu' : u = .int k x := by simpa using hu.symm
          subst hu'
          have hx' : (Z j).getD i 0 = x := by
            rw [List.getElem?_take_of_lt hil] at hi
            rw [List.getD_eq_getElem?_getD, hi]; rfl
          have := hcell i (by omega)
          rw [hx'] at this
          show W.cell? (a2.add (i * 1 + 0)) = _
          rw [Nat.mul_one, Nat.add_zero]
          exact this
      · have hi0 : i = 0 := by
          have := (List.getElem?_eq_some_iff.1 hu).1
          simpa using this
        subst hi0
        have hu' : u = .slice (A j) ((Z j).take (L j)).length (C j) := by simpa using hu.symm
        subst hu'
        show W.cell? (a'.add (j * 1 + 0)) = _
        rw [Nat.mul_one, Nat.add_zero, hlen]
        exact hc
    · intro s hs x hxs
      obtain ⟨r, hr', rfl⟩ := List.mem_map.1 hs
      obtain ⟨_, _, _, _, h4, _⟩ := hr r (by have := List.mem_range.1 hr'; omega)
      exact h4 x (List.mem_of_mem_take hxs)
    · have h1 := bulk_rows (fun r => intRow (H := H) k (A r) (L r) (Z r)) (fun r => (Z r).take (L r)) (List.range len) (fun r hr' => by
        obtain ⟨_, h1, _, h3, _, h5, _⟩ := hr r (by have := List.mem_range.1 hr'; omega)
        exact bulk_row k _ _ _ (by omega) (fun hA => by have := h5 hA; omega))
      rw [List.length_range] at h1
      simp only [Rows.uptoBulk, List.length_map, List.length_range]
      omega
theorem bulk_bound {H : Type} {l : List (DataW H)} (hk : Rows.uptoSmall H l = true) : Rows.uptoBulkAll l ≤ 1048576 := of_decide_eq_true hk
end Go.Proofs.Ytliohoalackhiaa.RowsL
