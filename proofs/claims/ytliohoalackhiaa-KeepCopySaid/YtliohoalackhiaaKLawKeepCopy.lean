/- Written by a program of this repo (wip/tools/gprint.py): what functions of the Go program compute, the proofs that they do, and the rows of statements. Conditions: those in each theorem. -/
import Derived.Test.YtliohoalackhiaaRows
import Derived.Test.YtliohoalackhiaaInit
import Derived.Test.YtliohoalackhiaaKEgLawKeepCopy
import Derived.WalkKit
import Derived.ProofKit
import Derived.OpenShut
import Derived.ShutString
import Derived.ChangeOld
import Derived.Below
import Derived.SizedLaws
import Derived.Test.YtliohoalackhiaaKW
namespace Go.Proofs.Ytliohoalackhiaa.keepCopy
open Go.ChangeShapes Go.WideShapes Go.ChangeAt Go.RowKit
open Go.ChangeMaps (open_string shut_string)
set_option linter.unusedVariables false
theorem own : ownKnob Try.prog.godebug = none := by kernel_rfl
theorem laidOut : laidOutB Try.prog = true := by kernel_rfl
def IsRow (k : IntKind) (w : World) (a : Option Addr) (len cap : Nat) (zs : List Int) : Prop :=
  (a = none ∧ len = 0 ∧ cap = 0 ∧ zs = []) ∨
  ∃ x, a = some x ∧ len ≤ cap ∧ cap ≤ maxLen ∧ zs.length = cap ∧ (∀ i, i < zs.length → w.cell? (x.add i) = some (.int k (zs.getD i 0))) ∧ ∀ n ∈ zs, (Lit.int k n).wf = true
/-- A row of choices that comes in. -/
theorem open_bools {H : Type} {enc : TypeId × Value → H} {P : Program} {w : World} {base : Nat} {spare : Nat → Bool} {held : Bool} {t e : TypeId} {fuel : Nat} {cs : List Value} {x : DataW H × List MemPlace} (ht : P.underlying t = some (.slice e)) (he : P.underlying e = some .bool) (hc : P.cellsOf e = 1)
    (h : DataW.trod enc P w base spare held fuel t cs = some x) : ∃ (B : Option Addr) (len cap : Nat) (zs : List Bool), cs = [.slice B len cap] ∧ zs.length = len ∧ len ≤ cap ∧ Go.Proofs.YtliohoalackhiaaW.PrintWords.Kd.C Go.Proofs.YtliohoalackhiaaW.PrintWords.Kd.bool w B zs.length zs := by
  rcases DataW.trod_slice ht h with ⟨rfl, rfl⟩ | ⟨a, len, cap, elems, rest, n, _, rfl, rfl, hb, hl, hm, hlen, hel, hsp, hns⟩
  · exact ⟨none, 0, 0, [], rfl, rfl, Nat.le_refl _, Go.Proofs.YtliohoalackhiaaW.PrintWords.Kd.C_nil _ _⟩
  · have each : ∀ i, i < len → ∃ b : Bool, w.cell? (a.add i) = some (.bool b) := by
      intro i hi
      have hb' := hel i hi
      rw [List.getElem?_eq_getElem (by omega), hc, Nat.mul_one, Option.bind_eq_some_iff] at hb'
      obtain ⟨cs', hcs, hy'⟩ := hb'
      obtain ⟨b, rfl, _⟩ := DataW.trod_bool he hy'
      exact ⟨b, Go.ChangeShapes.cell_of_cells?_one hcs⟩
    have hzl : ((List.range len).map fun i => match w.cell? (a.add i) with | some (.bool b) => b | _ => false).length = len := by simp
    refine ⟨some a, len, cap, (List.range len).map fun i => match w.cell? (a.add i) with | some (.bool b) => b | _ => false, rfl, hzl, hl, ?_⟩
    refine ⟨rfl, Nat.le_trans (Nat.le_of_eq hzl) (Nat.le_trans (Nat.le_trans hl hm) (by decide)), fun _ => ⟨a, rfl, fun j p hj => ⟨[.bool p], rfl, rfl, fun i u hu => ?_⟩⟩⟩
    have hi0 : i = 0 := by
      have := (List.getElem?_eq_some_iff.1 hu).1
      simpa using this
    subst hi0
    have hu' : u = .bool p := by simpa using hu.symm
    subst hu'
    show w.cell? (a.add (j * 1 + 0)) = _
    rw [Nat.mul_one, Nat.add_zero]
    rw [List.getElem?_map] at hj
    by_cases hlt : j < len
    · rw [List.getElem?_range hlt, Option.map_some] at hj
      obtain ⟨b, hb2⟩ := each j hlt
      rw [hb2] at hj ⊢
      rw [← Option.some.inj hj]
    · rw [List.getElem?_eq_none (by simpa using hlt)] at hj
      cases hj
set_option maxRecDepth 100000 in
theorem lifted (os : Os) (started : os.Started) (H : Type) (enc : TypeId × Value → H) :
    ReturnsInHanded {} Try.checked os 5 .any (Rows.keepCopySpec.pre6 enc Try.prog Try.f5 Rows.keepCopyRow.domain false) (Rows.keepCopySpec.post enc Try.prog Try.f5 false true false false) := by
  refine returnsInHanded_of_change_sized (C := Try.checked) own started (by kernel_rfl) Try.func5
    (ChangeSpec.witness6 (enc := enc) (C := Try.checked) false ⟨#[], #[.slice none 0 0, .int .u8 0, .slice none 0 0], []⟩ 8 (by kernel_rfl) (by kernel_rfl) (by kernel_rfl) (by kernel_rfl)) ?_
  intro W base args ds gs before hval0 hW hcnd hsz0 _
  have hsz : (DataW.weightsEach Try.prog (Try.f5.params.toList ++ Rows.keepCopySpec.plain.varTypes Try.prog) (ds ++ gs)).all (· ≤ reachBytes) = true := hsz0
  have hval : ∀ (j : Nat) t v, Try.f5.params[j]? = some t → args[j]? = some v → Value.okWide Try.prog W .any base t v := hval0
  have hW' := hW
  obtain ⟨p, q, hA0, hV, rfl, hfz, hnd⟩ := hW
  have hA : DataW.TrodAll enc Try.prog W 0 (fun _ => true) true Try.f5.params.toList args.toList ds p := hA0
  rw [Try.params5] at hA hval hsz
  obtain ⟨v0, vs0, d0, ds0, p0, q0, hargs, rfl, rfl, h0, r0⟩ := trodAll_cons hA
  obtain ⟨v1, vs1, d1, ds1, p1, q1, rfl, rfl, rfl, h1, r1⟩ := trodAll_cons r0
  obtain ⟨v2, vs2, d2, ds2, p2, q2, rfl, rfl, rfl, h2, r2⟩ := trodAll_cons r1
  obtain ⟨rfl, rfl, rfl⟩ := trodAll_nil r2
  obtain rfl : args = #[v0, v1, v2] := by cases args; simp_all
  obtain ⟨rfl, rfl⟩ := trodVars_none hV
  obtain ⟨a0, len0, cap0, rfl⟩ := okWide_slice Try.underlying22 (hval 0 22 v0 rfl rfl)
  have k0 := h0
  have lt0 : ∀ x ∈ p0, x.block < W.heap.size := by obtain ⟨m, hm⟩ := k0; exact DataW.trod_lt m _ _ _ hm
  obtain ⟨z0, w0⟩ : ∃ zs, IsRow .u8 W a0 len0 cap0 zs := by
    obtain ⟨fuel, hf⟩ := h0
    rcases open_ints Try.underlying22 Try.underlying5 (by kernel_rfl) hf with ⟨hcs, _⟩ | ⟨x, l, c, zs, hcs, _, hl, hm, hz, _, hcell, hwz⟩
    · simp [Value.cells] at hcs
      obtain ⟨rfl, rfl, rfl⟩ := hcs
      exact ⟨[], .inl ⟨rfl, rfl, rfl, rfl⟩⟩
    · simp [Value.cells] at hcs
      obtain ⟨rfl, rfl, rfl⟩ := hcs
      exact ⟨zs, .inr ⟨_, rfl, hl, hm, by simpa using hz, hcell, hwz⟩⟩
  have y0 : len0 * 1 ≤ 140737488351232 := Go.Proofs.YtliohoalackhiaaW.PrintWords.sized_ints hsz (j := 0) (t := 22) rfl rfl Try.underlying22 Try.underlying5 (by kernel_rfl) (by kernel_rfl) h0
  obtain ⟨a1, rfl, rfl, rfl, w1⟩ := open_int Try.underlying5 (hval 1 5 v1 rfl rfl) h1
  obtain ⟨a2, len2, cap2, rfl⟩ := okWide_slice Try.underlying23 (hval 2 23 v2 rfl rfl)
  have k2 := h2
  have lt2 : ∀ x ∈ p2, x.block < W.heap.size := by obtain ⟨m, hm⟩ := k2; exact DataW.trod_lt m _ _ _ hm
  obtain ⟨B2, L2, C2, zs2, hcs2, hzl2, hlc2, hrb2⟩ : ∃ (B : Option Addr) (len cap : Nat) (zs : List Bool), [.slice a2 len2 cap2] = [Value.slice B len cap] ∧ zs.length = len ∧ len ≤ cap ∧ Go.Proofs.YtliohoalackhiaaW.PrintWords.Kd.C Go.Proofs.YtliohoalackhiaaW.PrintWords.Kd.bool W B zs.length zs := by
    obtain ⟨fuel, hf⟩ := h2
    exact open_bools Try.underlying23 Try.underlying4 (by kernel_rfl) hf
  simp only [List.cons.injEq, Value.slice.injEq, and_true] at hcs2
  obtain ⟨rfl, rfl, rfl⟩ := hcs2
  clear hA0 hval0 hsz0 hsz
  obtain ⟨l0, e0, hr0, hm0, hw0, hc0⟩ := Go.Proofs.YtliohoalackhiaaW.PrintWords.ReadsInt.ofRowC w0
  subst e0
  subst hzl2
  have h := E.scullerlaw15_KeepCopy.f_true l0 a1 zs2 (by omega) hw0 w1
  refine (E.scullerlaw15_KeepCopy.calls _ _ l0 a1 _ _ zs2 true W (Go.Proofs.YtliohoalackhiaaW.PrintWords.Kd.C_of_reads (d := (0 : Int)) (h1 := fun _ => rfl) hr0) hc0 hrb2 hlc2 h).mono fun e W' ⟨he, bel⟩ => ?_
  subst he
  exact ⟨_, rfl, _, _, _, [], _, [], hW', trodAll_mk1 (shut_bool Try.underlying4 _), (trodAll_cons_mk (Below.trod laidOut (by kernel_rfl) (of_decide_eq_true (by kernel_rfl)) k0 bel lt0) (trodAll_cons_mk (shut_int Try.underlying5 w1) (trodAll_cons_mk (Below.trod laidOut (by kernel_rfl) (of_decide_eq_true (by kernel_rfl)) k2 bel lt2) trodAll_mk0))), rfl, bel.frame _, fun h => by cases h⟩
set_option maxHeartbeats 40000000 in
theorem closed : joinedFacts Try.pinned.checked.prog 5 Try.f5 Rows.keepCopySpec Rows.keepCopyRow = true := by
  unfold joinedFacts
  exact (Bool.and_eq_true_iff.mpr ⟨(Bool.and_eq_true_iff.mpr ⟨(Bool.and_eq_true_iff.mpr ⟨(Bool.and_eq_true_iff.mpr ⟨(Bool.and_eq_true_iff.mpr ⟨(Bool.and_eq_true_iff.mpr ⟨(Bool.and_eq_true_iff.mpr ⟨(Bool.and_eq_true_iff.mpr ⟨(Bool.and_eq_true_iff.mpr ⟨(Bool.and_eq_true_iff.mpr ⟨(Bool.and_eq_true_iff.mpr ⟨(Bool.and_eq_true_iff.mpr ⟨(Bool.and_eq_true_iff.mpr ⟨(Bool.and_eq_true_iff.mpr ⟨(Bool.and_eq_true_iff.mpr ⟨(Bool.and_eq_true_iff.mpr ⟨(Bool.and_eq_true_iff.mpr ⟨(Bool.and_eq_true_iff.mpr ⟨(Bool.and_eq_true_iff.mpr ⟨(Bool.and_eq_true_iff.mpr ⟨(Bool.and_eq_true_iff.mpr ⟨(Bool.and_eq_true_iff.mpr ⟨(Bool.and_eq_true_iff.mpr ⟨(Bool.and_eq_true_iff.mpr ⟨(Bool.and_eq_true_iff.mpr ⟨(Bool.and_eq_true_iff.mpr ⟨(Bool.and_eq_true_iff.mpr ⟨(Bool.and_eq_true_iff.mpr ⟨(Bool.and_eq_true_iff.mpr ⟨(Bool.and_eq_true_iff.mpr ⟨(Bool.and_eq_true_iff.mpr ⟨(by as_aux_lemma => kernel_rfl), (by as_aux_lemma => kernel_rfl)⟩), (by as_aux_lemma => kernel_rfl)⟩), (by as_aux_lemma => kernel_rfl)⟩), (by as_aux_lemma => kernel_rfl)⟩), (by as_aux_lemma => kernel_rfl)⟩), (by as_aux_lemma => kernel_rfl)⟩), (by as_aux_lemma => kernel_rfl)⟩), (by as_aux_lemma => kernel_rfl)⟩), (by as_aux_lemma => kernel_rfl)⟩), (by as_aux_lemma => kernel_rfl)⟩), (by as_aux_lemma => kernel_rfl)⟩), (by as_aux_lemma => kernel_rfl)⟩), (by as_aux_lemma => kernel_rfl)⟩), (by as_aux_lemma => kernel_rfl)⟩), (by as_aux_lemma => kernel_rfl)⟩), (by as_aux_lemma => kernel_rfl)⟩), (by as_aux_lemma => kernel_rfl)⟩), (by as_aux_lemma => kernel_rfl)⟩), (by as_aux_lemma => kernel_rfl)⟩), (by as_aux_lemma => kernel_rfl)⟩), (by as_aux_lemma => kernel_rfl)⟩), (by as_aux_lemma => kernel_rfl)⟩), (by as_aux_lemma => kernel_rfl)⟩), (by as_aux_lemma => kernel_rfl)⟩), Init.mayEnter⟩), (by rw [Init.liftsFinal]; as_aux_lemma => kernel_rfl)⟩), (by rw [Init.make]; as_aux_lemma => kernel_rfl)⟩), (by as_aux_lemma => kernel_rfl)⟩), (by as_aux_lemma => kernel_rfl)⟩), (by as_aux_lemma => kernel_rfl)⟩), (by as_aux_lemma => kernel_rfl)⟩)
theorem over : Rows.keepCopyRow.holds Try.pinned (OpenSpec.ofChange Rows.keepCopySpec) :=
  OpenClaim.holds_of_wide 5 Try.f5 rfl rfl rfl rfl rfl rfl rfl ⟨rfl, rfl, rfl, rfl, rfl⟩ rfl rfl rfl rfl rfl (by kernel_rfl) Try.func5 closed
    (of_decide_eq_true (by kernel_rfl)) (by unfold Func.isWrapper; first | (rw [if_pos (by decide +kernel)]; kernel_rfl) | (rw [if_neg (by decide +kernel)]; exact ⟨rfl, rfl⟩))
    (fun os started H enc _ => lifted os started H enc)
theorem proved : Rows.KeepCopySaid := over
#print axioms proved
end Go.Proofs.Ytliohoalackhiaa.keepCopy
namespace Go.Proofs.Ytliohoalackhiaa
/-- The row, under a short name, for the claim. -/
theorem keepCopy_holds : Rows.KeepCopySaid := keepCopy.proved
end Go.Proofs.Ytliohoalackhiaa
