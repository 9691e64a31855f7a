/- ManiCuts, where what it reads holds not too much: Chunk, Page and Join of any arena, manifest and pages, and of choices, are what the chapter says. Conditions: the arguments hold together at most 1048576 values, each counted each time it is reached (the statement's own second form). -/
import Derived.Test.YtliohoalackhiaaRows
import Derived.Test.YtliohoalackhiaaInit
import Derived.Test.YtliohoalackhiaaPNRowsL
import Derived.Test.YtliohoalackhiaaPNNLaw
import Derived.WalkKit
import Derived.ProofKit
import Derived.OpenShut
import Derived.ShutString
import Derived.ChangeOld
import Derived.Below
import Derived.JoinedCond
namespace Go.Proofs.Ytliohoalackhiaa.maniCuts
open Go.ChangeShapes Go.WideShapes Go.ChangeAt Go.RowKit
open Go.Proofs.YtliohoalackhiaaW.PrintWords Go.Proofs.Ytliohoalackhiaa.N Go.Proofs.Ytliohoalackhiaa.Num
set_option linter.unusedVariables false
theorem own : ownKnob Try.prog.godebug = none := by kernel_rfl
theorem laidOut : laidOutB Try.prog = true := by kernel_rfl
def IsRow (k : IntKind) (w : World) (a : Option Addr) (len cap : Nat) (zs : List Int) : Prop :=
  (a = none ∧ len = 0 ∧ cap = 0 ∧ zs = []) ∨
  ∃ x, a = some x ∧ len ≤ cap ∧ cap ≤ maxLen ∧ zs.length = cap ∧ (∀ i, i < zs.length → w.cell? (x.add i) = some (.int k (zs.getD i 0))) ∧ ∀ n ∈ zs, (Lit.int k n).wf = true
theorem row_of {H : Type} {enc : TypeId × Value → H} {P : Program} {W : World} {t e : TypeId} {k : IntKind} {fuel : Nat} {c : Value} {x : DataW H × List MemPlace} (ht : P.underlying t = some (.slice e)) (he : P.underlying e = some (.int k)) (hc : P.cellsOf e = 1)
    (hf : DataW.trod enc P W 0 (fun _ => true) true fuel t [c] = some x) : ∃ a len cap zs, c = .slice a len cap ∧ IsRow k W a len cap zs := by
  rcases open_ints ht he hc hf with ⟨hcs, _⟩ | ⟨x, l, c, zs, hcs, _, hl, hm, hz, _, hcell, hwz⟩
  · simp only [List.cons.injEq, and_true] at hcs
    subst hcs
    exact ⟨none, 0, 0, [], rfl, .inl ⟨rfl, rfl, rfl, rfl⟩⟩
  · simp only [List.cons.injEq, and_true] at hcs
    subst hcs
    exact ⟨_, _, _, zs, rfl, .inr ⟨_, rfl, hl, hm, by simpa using hz, hcell, hwz⟩⟩
/-- a manifest that comes in -/
theorem open_mani {H : Type} {enc : TypeId × Value → H} {W : World} {v : Value} {d : DataW H} {p : List MemPlace} (hv : ∃ cs, v = .agg cs ∧ cs.size = Try.prog.cellsOf 45) (h : DataW.Trod enc Try.prog W 0 (fun _ => true) true 45 v d p) :
    ∃ (b0 b2 : Int) (A1 : Option Addr) (n1 c1 : Nat) (z1 : List Int), v = .agg #[.int .u64 b0, .slice A1 n1 c1, .int .u32 b2] ∧ IsRow .i64 W A1 n1 c1 z1 := by
  obtain ⟨⟨cs⟩, rfl, hsz⟩ := hv
  have hsz3 : cs.length = 3 := by
    have e : Try.prog.cellsOf 45 = 3 := by kernel_rfl
    rw [e] at hsz; simpa using hsz
  obtain ⟨x0, x1, x2, rfl⟩ : ∃ x0 x1 x2, cs = [x0, x1, x2] := by
    match cs, hsz3 with
    | [x0, x1, x2], _ => exact ⟨x0, x1, x2, rfl⟩
  obtain ⟨fuel, hf⟩ := h
  have c1 : Try.prog.cellsOf 3 = 1 := by kernel_rfl
  have c2 : Try.prog.cellsOf 38 = 1 := by kernel_rfl
  have c3 : Try.prog.cellsOf 43 = 1 := by kernel_rfl
  have c4 : Try.prog.cellsOf 42 = 1 := by kernel_rfl
  obtain ⟨ys, n2, rfl, hx2, _, hys, hj⟩ := DataW.trod_struct Try.underlying45 hf
  have hys3 : ys.length = 3 := by simpa using hys
  have g' : ∀ (i : Nat), i < 3 → ∃ y, ys[i]? = some y := fun i h => ⟨ys[i], List.getElem?_eq_getElem (by omega)⟩
  obtain ⟨m0, e0⟩ := g' 0 (by omega)
  obtain ⟨m1, e1⟩ := g' 1 (by omega)
  obtain ⟨m2, e2⟩ := g' 2 (by omega)
  have p0 : DataW.trod enc Try.prog W 0 (fun _ => true) true n2 38 [x0] = some m0 := by have := hj 0 _ rfl; rw [e0] at this; simpa [c2, Value.cells] using this
  have p1 : DataW.trod enc Try.prog W 0 (fun _ => true) true n2 42 [x1] = some m1 := by have := hj 1 _ rfl; rw [e1] at this; simpa [c4, Value.cells] using this
  have p2 : DataW.trod enc Try.prog W 0 (fun _ => true) true n2 43 [x2] = some m2 := by have := hj 2 _ rfl; rw [e2] at this; simpa [c3, Value.cells] using this
  obtain ⟨b0, f0, _, w0⟩ := DataW.trod_int Try.underlying38 p0
  obtain ⟨b2, f2, _, w2⟩ := DataW.trod_int Try.underlying43 p2
  obtain ⟨A1, n1, k1, z1, rfl, r1⟩ := row_of Try.underlying42 Try.underlying3 c1 p1
  simp only [List.cons.injEq, and_true] at f0 f2
  subst f0 f2
  exact ⟨b0, b2, A1, n1, k1, z1, rfl, r1⟩
set_option maxRecDepth 100000 in
theorem contract (H : Type) (enc : TypeId × Value → H) (W : World) (base : Nat) (args : Array Value) (ds gs : List (DataW H)) (before : List MemPlace)
    (hval0 : ∀ (j : Nat) t v, Try.f11.params[j]? = some t → args[j]? = some v → Value.okWide Try.prog W .any base t v)
    (hW : DataW.Whole enc Try.prog Try.f11.params.toList Rows.maniCutsSpec.vars false W args.toList ds gs before) (hk : Rows.uptoSmall H (ds ++ gs) = true) :
    Calls Try.prog 11 args W fun e W' => ∃ v, e = .returned v ∧ Rows.maniCutsSpec.post enc Try.prog Try.f11 false true false false W args v W' := by
  have hval : ∀ (j : Nat) t v, Try.f11.params[j]? = some t → args[j]? = some v → Value.okWide Try.prog W .any base t v := hval0
  have hW' := hW
  have hbulk := RowsL.bulk_bound hk
  obtain ⟨p, q, hA0, hV, rfl, hfz, hnd⟩ := hW
  have hA : DataW.TrodAll enc Try.prog W 0 (fun _ => true) true Try.f11.params.toList args.toList ds p := hA0
  rw [Try.params11] at hA hval
  obtain ⟨v0, vs0, d0, ds0, p0, q0, hargs, rfl, rfl, h0, r0⟩ := trodAll_cons hA
  obtain ⟨v1, vs1, d1, ds1, p1, q1, rfl, rfl, rfl, h1, r1⟩ := trodAll_cons r0
  obtain ⟨v2, vs2, d2, ds2, p2, q2, rfl, rfl, rfl, h2, r2⟩ := trodAll_cons r1
  obtain ⟨v3, vs3, d3, ds3, p3, q3, rfl, rfl, rfl, h3, r3⟩ := trodAll_cons r2
  obtain ⟨v4, vs4, d4, ds4, p4, q4, rfl, rfl, rfl, h4, r4⟩ := trodAll_cons r3
  obtain ⟨v5, vs5, d5, ds5, p5, q5, rfl, rfl, rfl, h5, r5⟩ := trodAll_cons r4
  obtain ⟨v6, vs6, d6, ds6, p6, q6, rfl, rfl, rfl, h6, r6⟩ := trodAll_cons r5
  obtain ⟨v7, vs7, d7, ds7, p7, q7, rfl, rfl, rfl, h7, r7⟩ := trodAll_cons r6
  obtain ⟨rfl, rfl, rfl⟩ := trodAll_nil r7
  obtain rfl : args = #[v0, v1, v2, v3, v4, v5, v6, v7] := by cases args; simp_all
  obtain ⟨rfl, rfl⟩ := trodVars_none hV
  obtain ⟨a0, len0, cap0, rfl⟩ := okWide_slice Try.underlying40 (hval 0 40 v0 rfl rfl)
  obtain ⟨a3, len3, cap3, rfl⟩ := okWide_slice Try.underlying72 (hval 3 72 v3 rfl rfl)
  obtain ⟨a4, len4, cap4, rfl⟩ := okWide_slice Try.underlying22 (hval 4 22 v4 rfl rfl)
  have k0 := h0
  have k1 := h1
  have k3 := h3
  have k4 := h4
  have lt0 : ∀ x ∈ p0, x.block < W.heap.size := by obtain ⟨m, hm⟩ := k0; exact DataW.trod_lt m _ _ _ hm
  have lt1 : ∀ x ∈ p1, x.block < W.heap.size := by obtain ⟨m, hm⟩ := k1; exact DataW.trod_lt m _ _ _ hm
  have lt3 : ∀ x ∈ p3, x.block < W.heap.size := by obtain ⟨m, hm⟩ := k3; exact DataW.trod_lt m _ _ _ hm
  have lt4 : ∀ x ∈ p4, x.block < W.heap.size := by obtain ⟨m, hm⟩ := k4; exact DataW.trod_lt m _ _ _ hm
  obtain ⟨l0, rfl, c0, R0, u0, b0⟩ := RowsL.open_rows Try.underlying40 Try.underlying50 Try.underlying38 (by kernel_rfl) (by kernel_rfl) h0
  obtain ⟨l3, rfl, c3, R3, u3, b3⟩ := RowsL.open_rows Try.underlying72 Try.underlying42 Try.underlying3 (by kernel_rfl) (by kernel_rfl) h3
  obtain ⟨e0, e2, A1, n1, c1, z1, rfl, f1⟩ := open_mani (okWide_struct Try.underlying45 (hval 1 45 v1 rfl rfl)) h1
  obtain ⟨z4, w4⟩ : ∃ zs, IsRow .u8 W a4 len4 cap4 zs := by
    obtain ⟨fuel, hf⟩ := h4
    obtain ⟨_, _, _, zs, e, h⟩ := row_of Try.underlying22 Try.underlying5 (by kernel_rfl) hf
    cases e
    exact ⟨zs, h⟩
  obtain ⟨a2, rfl, rfl, rfl, w2⟩ := open_int Try.underlying3 (hval 2 3 v2 rfl rfl) h2
  obtain ⟨a5, rfl, rfl, rfl, w5⟩ := open_int Try.underlying5 (hval 5 5 v5 rfl rfl) h5
  obtain ⟨a6, rfl, rfl, rfl, w6⟩ := open_int Try.underlying5 (hval 6 5 v6 rfl rfl) h6
  obtain ⟨a7, rfl, rfl, rfl, w7⟩ := open_int Try.underlying5 (hval 7 5 v7 rfl rfl) h7
  clear hA0 hval0
  obtain ⟨l4, rfl, R4, m4, hw4, c4⟩ := ReadsInt.ofRowC w4
  obtain ⟨l1, rfl, R1, m1, hw1, d1_⟩ := ReadsInt.ofRowC f1
  have hb : Rows.uptoBulk d0 + Rows.uptoBulk d3 ≤ 1048576 := by
    simp only [List.cons_append, Rows.uptoBulkAll] at hbulk
    omega
  obtain ⟨k, hf⟩ := cuts_law l0 l3 (fun s hs x hx => bounds_u64 (u0 s hs x hx)) (by omega) (by omega) (by omega) l4 (Bytes.of_wf hw4) a2 a5 a6 a7 e0 e2 l1 (bounds_u8 w5) (bounds_u8 w6)
  refine (scullerlaw12_ManiCuts.calls k a0 cap0 l0 e0 A1 c1 l1 e2 a2 a3 cap3 l3 a4 cap4 l4 a5 a6 a7 true W R0 c0 (Kd.C_of_reads (d := (0 : Int)) (h1 := fun _ => rfl) R1) d1_ R3 c3 (Kd.C_of_reads (d := (0 : Int)) (h1 := fun _ => rfl) R4) c4 hf).mono fun e W' ⟨he, bel⟩ => ?_
  subst he
  exact ⟨_, rfl, _, _, _, [], _, [], hW', trodAll_mk1 (shut_bool Try.underlying4 _), (trodAll_cons_mk (Below.trod laidOut (by kernel_rfl) (of_decide_eq_true (by kernel_rfl)) k0 bel lt0) (trodAll_cons_mk (Below.trod laidOut (by kernel_rfl) (of_decide_eq_true (by kernel_rfl)) k1 bel lt1) (trodAll_cons_mk (shut_int Try.underlying3 w2) (trodAll_cons_mk (Below.trod laidOut (by kernel_rfl) (of_decide_eq_true (by kernel_rfl)) k3 bel lt3) (trodAll_cons_mk (Below.trod laidOut (by kernel_rfl) (of_decide_eq_true (by kernel_rfl)) k4 bel lt4) (trodAll_cons_mk (shut_int Try.underlying5 w5) (trodAll_cons_mk (shut_int Try.underlying5 w6) (trodAll_cons_mk (shut_int Try.underlying5 w7) trodAll_mk0)))))))), rfl, bel.frame _, fun h => by cases h⟩
set_option maxRecDepth 100000 in
theorem lifted (os : Os) (started : os.Started) (H : Type) (enc : TypeId × Value → H) (F : Stop.Interp) :
    ReturnsInHanded {} Try.checked os 11 .any ((Rows.OpenSpec.upto Rows.maniCutsSpec).pre6 enc Try.prog Try.f11 Rows.maniCutsUptoRow.domain false) (((Rows.OpenSpec.upto Rows.maniCutsSpec).at F).post enc Try.prog Try.f11 false true false false) := by
  refine returnsInHanded_of_cond (C := Try.checked) (s := Rows.OpenSpec.upto Rows.maniCutsSpec) (k := Rows.uptoSmall) rfl own started (by kernel_rfl) Try.func11
    (OpenSpec.witness (enc := enc) (C := Try.checked) (s := Rows.OpenSpec.upto Rows.maniCutsSpec) (k := Rows.uptoSmall) rfl false ⟨#[], #[.slice none 0 0, .agg #[.int .u64 0, .slice none 0 0, .int .u32 0], .int .i64 0, .slice none 0 0, .slice none 0 0, .int .u8 0, .int .u8 0, .int .u8 0], []⟩ 8 (by kernel_rfl) (by kernel_rfl) (by kernel_rfl)
      (x := ([.nil, .agg [.lit (.int .u64 0), .nil, .lit (.int .u32 0)], .lit (.int .i64 0), .nil, .nil, .lit (.int .u8 0), .lit (.int .u8 0), .lit (.int .u8 0)], [], [])) (by kernel_rfl) rfl (by kernel_rfl)) ?_
  intro W base args ds gs before hval hW _ hk _
  exact contract H enc W base args ds gs before hval hW hk
set_option maxHeartbeats 40000000 in
theorem closed : joinedFacts Try.pinned.checked.prog 11 Try.f11 (Rows.OpenSpec.upto Rows.maniCutsSpec).bare Rows.maniCutsUptoRow = true := by
  unfold joinedFacts
  exact (Bool.and_eq_true_iff.mpr ⟨(Bool.and_eq_true_iff.mpr ⟨(Bool.and_eq_true_iff.mpr ⟨(Bool.and_eq_true_iff.mpr ⟨(Bool.and_eq_true_iff.mpr ⟨(Bool.and_eq_true_iff.mpr ⟨(Bool.and_eq_true_iff.mpr ⟨(Bool.and_eq_true_iff.mpr ⟨(Bool.and_eq_true_iff.mpr ⟨(Bool.and_eq_true_iff.mpr ⟨(Bool.and_eq_true_iff.mpr ⟨(Bool.and_eq_true_iff.mpr ⟨(Bool.and_eq_true_iff.mpr ⟨(Bool.and_eq_true_iff.mpr ⟨(Bool.and_eq_true_iff.mpr ⟨(Bool.and_eq_true_iff.mpr ⟨(Bool.and_eq_true_iff.mpr ⟨(Bool.and_eq_true_iff.mpr ⟨(Bool.and_eq_true_iff.mpr ⟨(Bool.and_eq_true_iff.mpr ⟨(Bool.and_eq_true_iff.mpr ⟨(Bool.and_eq_true_iff.mpr ⟨(Bool.and_eq_true_iff.mpr ⟨(Bool.and_eq_true_iff.mpr ⟨(Bool.and_eq_true_iff.mpr ⟨(Bool.and_eq_true_iff.mpr ⟨(Bool.and_eq_true_iff.mpr ⟨(Bool.and_eq_true_iff.mpr ⟨(Bool.and_eq_true_iff.mpr ⟨(Bool.and_eq_true_iff.mpr ⟨(Bool.and_eq_true_iff.mpr ⟨(by as_aux_lemma => kernel_rfl), (by as_aux_lemma => kernel_rfl)⟩), (by as_aux_lemma => kernel_rfl)⟩), (by as_aux_lemma => kernel_rfl)⟩), (by as_aux_lemma => kernel_rfl)⟩), (by as_aux_lemma => kernel_rfl)⟩), (by as_aux_lemma => kernel_rfl)⟩), (by as_aux_lemma => kernel_rfl)⟩), (by as_aux_lemma => kernel_rfl)⟩), (by as_aux_lemma => kernel_rfl)⟩), (by as_aux_lemma => kernel_rfl)⟩), (by as_aux_lemma => kernel_rfl)⟩), (by as_aux_lemma => kernel_rfl)⟩), (by as_aux_lemma => kernel_rfl)⟩), (by as_aux_lemma => kernel_rfl)⟩), (by as_aux_lemma => kernel_rfl)⟩), (by as_aux_lemma => kernel_rfl)⟩), (by as_aux_lemma => kernel_rfl)⟩), (by as_aux_lemma => kernel_rfl)⟩), (by as_aux_lemma => kernel_rfl)⟩), (by as_aux_lemma => kernel_rfl)⟩), (by as_aux_lemma => kernel_rfl)⟩), (by as_aux_lemma => kernel_rfl)⟩), (by as_aux_lemma => kernel_rfl)⟩), (by as_aux_lemma => kernel_rfl)⟩), Init.mayEnter⟩), (by rw [Init.liftsFinal]; as_aux_lemma => kernel_rfl)⟩), (by rw [Init.make]; as_aux_lemma => kernel_rfl)⟩), (by as_aux_lemma => kernel_rfl)⟩), (by as_aux_lemma => kernel_rfl)⟩), (by as_aux_lemma => kernel_rfl)⟩), (by as_aux_lemma => kernel_rfl)⟩)
theorem over : Rows.maniCutsUptoRow.holds Try.pinned (Rows.OpenSpec.upto Rows.maniCutsSpec) :=
  OpenClaim.holds_of_cond 11 Try.f11 rfl rfl rfl rfl rfl rfl rfl ⟨rfl, rfl, rfl, rfl, rfl⟩ rfl rfl rfl rfl rfl (by kernel_rfl) Try.func11 closed
    (of_decide_eq_true (by kernel_rfl)) (by unfold Func.isWrapper; first | (rw [if_pos (by decide +kernel)]; kernel_rfl) | (rw [if_neg (by decide +kernel)]; exact ⟨rfl, rfl⟩))
    (fun os started H enc _ F => lifted os started H enc F)
theorem proved : Rows.ManiCutsUptoSaid := over
#print axioms proved
end Go.Proofs.Ytliohoalackhiaa.maniCuts
namespace Go.Proofs.Ytliohoalackhiaa
/-- The row, under a short name, for the claim. -/
theorem maniCutsUpto_holds : Rows.ManiCutsUptoSaid := maniCuts.proved
end Go.Proofs.Ytliohoalackhiaa
