/- TokenCodes: Right, Encode, Decode and Same of any token and bytes, and of choices, with a byte another one, or with a sum of their own, are what the chapter says. Conditions: none. -/
import Derived.Test.YtliohoalackhiaaRows
import Derived.Test.YtliohoalackhiaaInit
import Derived.Test.YtliohoalackhiaaVJTokenCodesP
import Derived.WalkKit
import Derived.ProofKit
import Derived.OpenShut
import Derived.ShutString
import Derived.ChangeOld
import Derived.Below
import Derived.SizedLaws
import Derived.Test.YtliohoalackhiaaVW
namespace Go.Proofs.Ytliohoalackhiaa.tokenCodes
open Go.ChangeShapes Go.WideShapes Go.ChangeAt Go.RowKit
open Go.Proofs.YtliohoalackhiaaW.PrintWords Go.Proofs.Ytliohoalackhiaa.J
set_option linter.unusedVariables false
theorem own : ownKnob Try.prog.godebug = none := by kernel_rfl
theorem laidOut : laidOutB Try.prog = true := by kernel_rfl
def IsRow (k : IntKind) (w : World) (a : Option Addr) (len cap : Nat) (zs : List Int) : Prop :=
  (a = none ∧ len = 0 ∧ cap = 0 ∧ zs = []) ∨
  ∃ x, a = some x ∧ len ≤ cap ∧ cap ≤ maxLen ∧ zs.length = cap ∧ (∀ i, i < zs.length → w.cell? (x.add i) = some (.int k (zs.getD i 0))) ∧ ∀ n ∈ zs, (Lit.int k n).wf = true
theorem row_of {H : Type} {enc : TypeId × Value → H} {P : Program} {W : World} {t e : TypeId} {k : IntKind} {fuel : Nat} {c : Value} {x : DataW H × List MemPlace} (ht : P.underlying t = some (.slice e)) (he : P.underlying e = some (.int k)) (hc : P.cellsOf e = 1)
    (hf : DataW.trod enc P W 0 (fun _ => true) true fuel t [c] = some x) : ∃ a len cap zs, c = .slice a len cap ∧ IsRow k W a len cap zs := by
  rcases open_ints ht he hc hf with ⟨hcs, _⟩ | ⟨x, l, c, zs, hcs, _, hl, hm, hz, _, hcell, hwz⟩
  · simp only [List.cons.injEq, and_true] at hcs
    subst hcs
    exact ⟨none, 0, 0, [], rfl, .inl ⟨rfl, rfl, rfl, rfl⟩⟩
  · simp only [List.cons.injEq, and_true] at hcs
    subst hcs
    exact ⟨_, _, _, zs, rfl, .inr ⟨_, rfl, hl, hm, by simpa using hz, hcell, hwz⟩⟩
/-- a token that comes in -/
theorem open_tok {H : Type} {enc : TypeId × Value → H} {W : World} {v : Value} {d : DataW H} {p : List MemPlace} (hv : ∃ cs, v = .agg cs ∧ cs.size = Try.prog.cellsOf 66) (h : DataW.Trod enc Try.prog W 0 (fun _ => true) true 66 v d p) :
    ∃ (b0 b2 : Int) (A1 : Option Addr) (n1 c1 : Nat) (z1 : List Int) (A3 : Option Addr) (n3 c3 : Nat) (z3 : List Int), v = .agg #[.int .u64 b0, .slice A1 n1 c1, .int .u32 b2, .slice A3 n3 c3] ∧
      (Lit.int .u64 b0).wf = true ∧ (Lit.int .u32 b2).wf = true ∧ IsRow .i64 W A1 n1 c1 z1 ∧ IsRow .u8 W A3 n3 c3 z3 := by
  obtain ⟨⟨cs⟩, rfl, hsz⟩ := hv
  have hsz4 : cs.length = 4 := by
    have e : Try.prog.cellsOf 66 = 4 := by kernel_rfl
    rw [e] at hsz; simpa using hsz
  obtain ⟨x0, x1, x2, x3, rfl⟩ : ∃ x0 x1 x2 x3, cs = [x0, x1, x2, x3] := by
    match cs, hsz4 with
    | [x0, x1, x2, x3], _ => exact ⟨x0, x1, x2, x3, rfl⟩
  obtain ⟨fuel, hf⟩ := h
  obtain ⟨xs, n, rfl, hx, _, hxs, hi⟩ := DataW.trod_struct Try.underlying66 hf
  have hxs2 : xs.length = 2 := by simpa using hxs
  have g : ∀ (i : Nat), i < 2 → ∃ y, xs[i]? = some y := fun i h => ⟨xs[i], List.getElem?_eq_getElem (by omega)⟩
  have cM : Try.prog.cellsOf 45 = 3 := by kernel_rfl
  have c1 : Try.prog.cellsOf 3 = 1 := by kernel_rfl
  have c2 : Try.prog.cellsOf 38 = 1 := by kernel_rfl
  have c3 : Try.prog.cellsOf 43 = 1 := by kernel_rfl
  have c4 : Try.prog.cellsOf 42 = 1 := by kernel_rfl
  have c5 : Try.prog.cellsOf 22 = 1 := by kernel_rfl
  obtain ⟨y0, g0⟩ := g 0 (by omega)
  obtain ⟨y1, g1⟩ := g 1 (by omega)
  have qM : DataW.trod enc Try.prog W 0 (fun _ => true) true n 45 [x0, x1, x2] = some y0 := by have := hi 0 _ rfl; rw [g0] at this; simpa [cM, Value.cells] using this
  have q3 : DataW.trod enc Try.prog W 0 (fun _ => true) true n 22 [x3] = some y1 := by have := hi 1 _ rfl; rw [g1] at this; simpa [c5, Value.cells] using this
  obtain ⟨ys, n2, rfl, hx2, _, hys, hj⟩ := DataW.trod_struct Try.underlying45 qM
  have hys3 : ys.length = 3 := by simpa using hys
  have g' : ∀ (i : Nat), i < 3 → ∃ y, ys[i]? = some y := fun i h => ⟨ys[i], List.getElem?_eq_getElem (by omega)⟩
  obtain ⟨m0, e0⟩ := g' 0 (by omega)
  obtain ⟨m1, e1⟩ := g' 1 (by omega)
  obtain ⟨m2, e2⟩ := g' 2 (by omega)
  have p0 : DataW.trod enc Try.prog W 0 (fun _ => true) true n2 38 [x0] = some m0 := by have := hj 0 _ rfl; rw [e0] at this; simpa [c2, Value.cells] using this
  have p1 : DataW.trod enc Try.prog W 0 (fun _ => true) true n2 42 [x1] = some m1 := by have := hj 1 _ rfl; rw [e1] at this; simpa [c4, Value.cells] using this
  have p2 : DataW.trod enc Try.prog W 0 (fun _ => true) true n2 43 [x2] = some m2 := by have := hj 2 _ rfl; rw [e2] at this; simpa [c3, Value.cells] using this
  obtain ⟨b0, f0, _, w0⟩ := DataW.trod_int Try.underlying38 p0
  obtain ⟨b2, f2, _, w2⟩ := DataW.trod_int Try.underlying43 p2
  obtain ⟨A1, n1, k1, z1, rfl, r1⟩ := row_of Try.underlying42 Try.underlying3 c1 p1
  obtain ⟨A3, n3, k3, z3, rfl, r3⟩ := row_of Try.underlying22 Try.underlying5 (by kernel_rfl) q3
  simp only [List.cons.injEq, and_true] at f0 f2
  subst f0 f2
  exact ⟨b0, b2, A1, n1, k1, z1, A3, n3, k3, z3, rfl, w0, w2, r1, r3⟩
set_option maxRecDepth 100000 in
theorem lifted (os : Os) (started : os.Started) (H : Type) (enc : TypeId × Value → H) :
    ReturnsInHanded {} Try.checked os 8 .any (Rows.tokenCodesSpec.pre6 enc Try.prog Try.f8 Rows.tokenCodesRow.domain false) (Rows.tokenCodesSpec.post enc Try.prog Try.f8 false true false false) := by
  refine returnsInHanded_of_change_sized (C := Try.checked) own started (by kernel_rfl) Try.func8
    (ChangeSpec.witness6 (enc := enc) (C := Try.checked) false ⟨#[], #[.agg #[.int .u64 0, .slice none 0 0, .int .u32 0, .slice none 0 0], .slice none 0 0, .int .u64 0, .slice none 0 0, .int .u8 0, .int .u8 0, .int .u16 0, .int .u8 0], []⟩ 8 (by kernel_rfl) (by kernel_rfl) (by kernel_rfl) (by kernel_rfl)) ?_
  intro W base args ds gs before hval0 hW hcnd hsz0 _
  have hsz : (DataW.weightsEach Try.prog (Try.f8.params.toList ++ Rows.tokenCodesSpec.plain.varTypes Try.prog) (ds ++ gs)).all (· ≤ reachBytes) = true := hsz0
  have hval : ∀ (j : Nat) t v, Try.f8.params[j]? = some t → args[j]? = some v → Value.okWide Try.prog W .any base t v := hval0
  have hW' := hW
  obtain ⟨p, q, hA0, hV, rfl, hfz, hnd⟩ := hW
  have hA : DataW.TrodAll enc Try.prog W 0 (fun _ => true) true Try.f8.params.toList args.toList ds p := hA0
  rw [Try.params8] at hA hval hsz
  obtain ⟨v0, vs0, d0, ds0, p0, q0, hargs, rfl, rfl, h0, r0⟩ := trodAll_cons hA
  obtain ⟨v1, vs1, d1, ds1, p1, q1, rfl, rfl, rfl, h1, r1⟩ := trodAll_cons r0
  obtain ⟨v2, vs2, d2, ds2, p2, q2, rfl, rfl, rfl, h2, r2⟩ := trodAll_cons r1
  obtain ⟨v3, vs3, d3, ds3, p3, q3, rfl, rfl, rfl, h3, r3⟩ := trodAll_cons r2
  obtain ⟨v4, vs4, d4, ds4, p4, q4, rfl, rfl, rfl, h4, r4⟩ := trodAll_cons r3
  obtain ⟨v5, vs5, d5, ds5, p5, q5, rfl, rfl, rfl, h5, r5⟩ := trodAll_cons r4
  obtain ⟨v6, vs6, d6, ds6, p6, q6, rfl, rfl, rfl, h6, r6⟩ := trodAll_cons r5
  obtain ⟨v7, vs7, d7, ds7, p7, q7, rfl, rfl, rfl, h7, r7⟩ := trodAll_cons r6
  obtain ⟨rfl, rfl, rfl⟩ := trodAll_nil r7
  obtain rfl : args = #[v0, v1, v2, v3, v4, v5, v6, v7] := by cases args; simp_all
  obtain ⟨rfl, rfl⟩ := trodVars_none hV
  obtain ⟨a1, len1, cap1, rfl⟩ := okWide_slice Try.underlying22 (hval 1 22 v1 rfl rfl)
  obtain ⟨a3, len3, cap3, rfl⟩ := okWide_slice Try.underlying22 (hval 3 22 v3 rfl rfl)
  have k0 := h0
  have k1 := h1
  have k3 := h3
  have lt0 : ∀ x ∈ p0, x.block < W.heap.size := by obtain ⟨m, hm⟩ := k0; exact DataW.trod_lt m _ _ _ hm
  have lt1 : ∀ x ∈ p1, x.block < W.heap.size := by obtain ⟨m, hm⟩ := k1; exact DataW.trod_lt m _ _ _ hm
  have lt3 : ∀ x ∈ p3, x.block < W.heap.size := by obtain ⟨m, hm⟩ := k3; exact DataW.trod_lt m _ _ _ hm
  have y3 : len3 * 1 ≤ 140737488351232 := Go.Proofs.YtliohoalackhiaaW.PrintWords.sized_ints hsz (j := 3) (t := 22) rfl rfl Try.underlying22 Try.underlying5 (by kernel_rfl) (by kernel_rfl) h3
  obtain ⟨b0, b2, A1, n1, c1, z1, A3, n3, c3, z3, rfl, f0, f2, f1, f3⟩ := open_tok (okWide_struct Try.underlying66 (hval 0 66 v0 rfl rfl)) h0
  obtain ⟨u1, w1⟩ : ∃ zs, IsRow .u8 W a1 len1 cap1 zs := by
    obtain ⟨fuel, hf⟩ := h1
    obtain ⟨_, _, _, zs, e, h⟩ := row_of Try.underlying22 Try.underlying5 (by kernel_rfl) hf
    cases e
    exact ⟨zs, h⟩
  obtain ⟨u3, w3⟩ : ∃ zs, IsRow .u8 W a3 len3 cap3 zs := by
    obtain ⟨fuel, hf⟩ := h3
    obtain ⟨_, _, _, zs, e, h⟩ := row_of Try.underlying22 Try.underlying5 (by kernel_rfl) hf
    cases e
    exact ⟨zs, h⟩
  obtain ⟨a2, rfl, rfl, rfl, w2⟩ := open_int Try.underlying38 (hval 2 38 v2 rfl rfl) h2
  obtain ⟨a4, rfl, rfl, rfl, w4⟩ := open_int Try.underlying5 (hval 4 5 v4 rfl rfl) h4
  obtain ⟨a5, rfl, rfl, rfl, w5⟩ := open_int Try.underlying5 (hval 5 5 v5 rfl rfl) h5
  obtain ⟨a6, rfl, rfl, rfl, w6⟩ := open_int Try.underlying46 (hval 6 46 v6 rfl rfl) h6
  obtain ⟨a7, rfl, rfl, rfl, w7⟩ := open_int Try.underlying5 (hval 7 5 v7 rfl rfl) h7
  clear hA0 hval0 hsz0 hsz hcnd
  obtain ⟨l1, rfl, R1, m1, hw1, c1_⟩ := ReadsInt.ofRowC w1
  obtain ⟨l3, rfl, R3, m3, hw3, c3_⟩ := ReadsInt.ofRowC w3
  obtain ⟨s1, rfl, S1, m1', hs1, d1_⟩ := ReadsInt.ofRowC f1
  obtain ⟨s3, rfl, S3, m3', hs3, d3_⟩ := ReadsInt.ofRowC f3
  have hf := tokenCodes_law b0 s1 b2 s3 l1 a2 l3 a4 a5 a6 a7 (Bytes.of_wf hs3) (Bytes.of_wf hw1) (Bytes.of_wf hw3) (by omega) (bounds_u64 f0) (bounds_u32 f2) (bounds_u64 w2) (bounds_u8 w4) (bounds_u8 w5) (bounds_u16 w6) (bounds_u8 w7)
  have F : ∀ {k : IntKind} {A : Option Addr} {n : Nat} {l : List Int}, ReadsInt W k A n l → Kd.C (Kd.int k) W A n l := fun h => Kd.C_of_reads (d := (0 : Int)) (h1 := fun _ => rfl) h
  refine (scullerlaw14_TokenCodes.calls _ b0 A1 c1 s1 b2 A3 c3 s3 a1 cap1 l1 a2 a3 cap3 l3 a4 a5 a6 a7 true W (F S1) d1_ (F S3) d3_ (F R1) c1_ (F R3) c3_ hf rfl).mono fun e W' ⟨he, bel⟩ => ?_
  subst he
  exact ⟨_, rfl, _, _, _, [], _, [], hW', trodAll_mk1 (shut_bool Try.underlying4 _), (trodAll_cons_mk (Below.trod laidOut (by kernel_rfl) (of_decide_eq_true (by kernel_rfl)) k0 bel lt0) (trodAll_cons_mk (Below.trod laidOut (by kernel_rfl) (of_decide_eq_true (by kernel_rfl)) k1 bel lt1)
    (trodAll_cons_mk (shut_int Try.underlying38 w2) (trodAll_cons_mk (Below.trod laidOut (by kernel_rfl) (of_decide_eq_true (by kernel_rfl)) k3 bel lt3)
      (trodAll_cons_mk (shut_int Try.underlying5 w4) (trodAll_cons_mk (shut_int Try.underlying5 w5) (trodAll_cons_mk (shut_int Try.underlying46 w6) (trodAll_cons_mk (shut_int Try.underlying5 w7) trodAll_mk0)))))))), rfl, bel.frame _, fun h => by cases h⟩
set_option maxHeartbeats 40000000 in
theorem closed : joinedFacts Try.pinned.checked.prog 8 Try.f8 Rows.tokenCodesSpec Rows.tokenCodesRow = true := by
  unfold joinedFacts
  exact (Bool.and_eq_true_iff.mpr ⟨(Bool.and_eq_true_iff.mpr ⟨(Bool.and_eq_true_iff.mpr ⟨(Bool.and_eq_true_iff.mpr ⟨(Bool.and_eq_true_iff.mpr ⟨(Bool.and_eq_true_iff.mpr ⟨(Bool.and_eq_true_iff.mpr ⟨(Bool.and_eq_true_iff.mpr ⟨(Bool.and_eq_true_iff.mpr ⟨(Bool.and_eq_true_iff.mpr ⟨(Bool.and_eq_true_iff.mpr ⟨(Bool.and_eq_true_iff.mpr ⟨(Bool.and_eq_true_iff.mpr ⟨(Bool.and_eq_true_iff.mpr ⟨(Bool.and_eq_true_iff.mpr ⟨(Bool.and_eq_true_iff.mpr ⟨(Bool.and_eq_true_iff.mpr ⟨(Bool.and_eq_true_iff.mpr ⟨(Bool.and_eq_true_iff.mpr ⟨(Bool.and_eq_true_iff.mpr ⟨(Bool.and_eq_true_iff.mpr ⟨(Bool.and_eq_true_iff.mpr ⟨(Bool.and_eq_true_iff.mpr ⟨(Bool.and_eq_true_iff.mpr ⟨(Bool.and_eq_true_iff.mpr ⟨(Bool.and_eq_true_iff.mpr ⟨(Bool.and_eq_true_iff.mpr ⟨(Bool.and_eq_true_iff.mpr ⟨(Bool.and_eq_true_iff.mpr ⟨(Bool.and_eq_true_iff.mpr ⟨(Bool.and_eq_true_iff.mpr ⟨(by as_aux_lemma => kernel_rfl), (by as_aux_lemma => kernel_rfl)⟩), (by as_aux_lemma => kernel_rfl)⟩), (by as_aux_lemma => kernel_rfl)⟩), (by as_aux_lemma => kernel_rfl)⟩), (by as_aux_lemma => kernel_rfl)⟩), (by as_aux_lemma => kernel_rfl)⟩), (by as_aux_lemma => kernel_rfl)⟩), (by as_aux_lemma => kernel_rfl)⟩), (by as_aux_lemma => kernel_rfl)⟩), (by as_aux_lemma => kernel_rfl)⟩), (by as_aux_lemma => kernel_rfl)⟩), (by as_aux_lemma => kernel_rfl)⟩), (by as_aux_lemma => kernel_rfl)⟩), (by as_aux_lemma => kernel_rfl)⟩), (by as_aux_lemma => kernel_rfl)⟩), (by as_aux_lemma => kernel_rfl)⟩), (by as_aux_lemma => kernel_rfl)⟩), (by as_aux_lemma => kernel_rfl)⟩), (by as_aux_lemma => kernel_rfl)⟩), (by as_aux_lemma => kernel_rfl)⟩), (by as_aux_lemma => kernel_rfl)⟩), (by as_aux_lemma => kernel_rfl)⟩), (by as_aux_lemma => kernel_rfl)⟩), (by as_aux_lemma => kernel_rfl)⟩), Init.mayEnter⟩), (by rw [Init.liftsFinal]; as_aux_lemma => kernel_rfl)⟩), (by rw [Init.make]; as_aux_lemma => kernel_rfl)⟩), (by as_aux_lemma => kernel_rfl)⟩), (by as_aux_lemma => kernel_rfl)⟩), (by as_aux_lemma => kernel_rfl)⟩), (by as_aux_lemma => kernel_rfl)⟩)
theorem over : Rows.tokenCodesRow.holds Try.pinned (OpenSpec.ofChange Rows.tokenCodesSpec) :=
  OpenClaim.holds_of_wide 8 Try.f8 rfl rfl rfl rfl rfl rfl rfl ⟨rfl, rfl, rfl, rfl, rfl⟩ rfl rfl rfl rfl rfl (by kernel_rfl) Try.func8 closed
    (of_decide_eq_true (by kernel_rfl)) (by unfold Func.isWrapper; first | (rw [if_pos (by decide +kernel)]; kernel_rfl) | (rw [if_neg (by decide +kernel)]; exact ⟨rfl, rfl⟩))
    (fun os started H enc _ => lifted os started H enc)
theorem proved : Rows.TokenCodesSaid := over
#print axioms proved
end Go.Proofs.Ytliohoalackhiaa.tokenCodes
namespace Go.Proofs.Ytliohoalackhiaa
/-- The row, under a short name, for the claim. -/
theorem tokenCodes_holds : Rows.TokenCodesSaid := tokenCodes.proved
end Go.Proofs.Ytliohoalackhiaa
