/- PackCodes: Encode, Parse and Same of any datagram and bytes, and of choices, with a byte another one, or with a sum of their own, are what the chapter says. Conditions: none. -/
import Derived.Test.YtliohoalackhiaaRows
import Derived.Test.YtliohoalackhiaaInit
import Derived.Test.YtliohoalackhiaaZIPackCodesP
import Derived.WalkKit
import Derived.ProofKit
import Derived.OpenShut
import Derived.ShutString
import Derived.ChangeOld
import Derived.Below
import Derived.SizedLaws
namespace Go.Proofs.Ytliohoalackhiaa.packCodes
open Go.ChangeShapes Go.WideShapes Go.ChangeAt Go.RowKit
open Go.Proofs.YtliohoalackhiaaW.PrintWords Go.Proofs.Ytliohoalackhiaa.I
set_option linter.unusedVariables false
theorem own : ownKnob Try.prog.godebug = none := by kernel_rfl
theorem laidOut : laidOutB Try.prog = true := by kernel_rfl
def IsRow (k : IntKind) (w : World) (a : Option Addr) (len cap : Nat) (zs : List Int) : Prop :=
  (a = none ∧ len = 0 ∧ cap = 0 ∧ zs = []) ∨
  ∃ x, a = some x ∧ len ≤ cap ∧ cap ≤ maxLen ∧ zs.length = cap ∧ (∀ i, i < zs.length → w.cell? (x.add i) = some (.int k (zs.getD i 0))) ∧ ∀ n ∈ zs, (Lit.int k n).wf = true
theorem row_of {H : Type} {enc : TypeId × Value → H} {P : Program} {W : World} {t e : TypeId} {k : IntKind} {fuel : Nat} {c : Value} {x : DataW H × List MemPlace} (ht : P.underlying t = some (.slice e)) (he : P.underlying e = some (.int k)) (hc : P.cellsOf e = 1)
    (hf : DataW.trod enc P W 0 (fun _ => true) true fuel t [c] = some x) : ∃ a len cap zs, c = .slice a len cap ∧ IsRow k W a len cap zs := by
  rcases open_ints ht he hc hf with ⟨hcs, _⟩ | ⟨x, l, c, zs, hcs, _, hl, hm, hz, _, hcell, hwz⟩
  · simp only [List.cons.injEq, and_true] at hcs
    subst hcs
    exact ⟨none, 0, 0, [], rfl, .inl ⟨rfl, rfl, rfl, rfl⟩⟩
  · simp only [List.cons.injEq, and_true] at hcs
    subst hcs
    exact ⟨_, _, _, zs, rfl, .inr ⟨_, rfl, hl, hm, by simpa using hz, hcell, hwz⟩⟩
/-- a datagram that comes in -/
theorem open_gram {H : Type} {enc : TypeId × Value → H} {W : World} {v : Value} {d : DataW H} {p : List MemPlace} (hv : ∃ cs, v = .agg cs ∧ cs.size = Try.prog.cellsOf 56) (h : DataW.Trod enc Try.prog W 0 (fun _ => true) true 56 v d p) :
    ∃ (b0 b1 b2 b3 b4 : Int) (A5 : Option Addr) (n5 c5 : Nat) (z5 : List Int) (A6 : Option Addr) (n6 c6 : Nat) (z6 : List Int), v = .agg #[.int .i64 b0, .int .u64 b1, .int .i64 b2, .int .i64 b3, .int .u32 b4, .slice A5 n5 c5, .slice A6 n6 c6] ∧
      (Lit.int .i64 b0).wf = true ∧ (Lit.int .u64 b1).wf = true ∧ (Lit.int .u32 b4).wf = true ∧ IsRow .i64 W A5 n5 c5 z5 ∧ IsRow .u8 W A6 n6 c6 z6 := by
  obtain ⟨⟨cs⟩, rfl, hsz⟩ := hv
  have hsz7 : cs.length = 7 := by
    have e : Try.prog.cellsOf 56 = 7 := by kernel_rfl
    rw [e] at hsz; simpa using hsz
  obtain ⟨x0, x1, x2, x3, x4, x5, x6, rfl⟩ : ∃ x0 x1 x2 x3 x4 x5 x6, cs = [x0, x1, x2, x3, x4, x5, x6] := by
    match cs, hsz7 with
    | [x0, x1, x2, x3, x4, x5, x6], _ => exact ⟨x0, x1, x2, x3, x4, x5, x6, rfl⟩
  obtain ⟨fuel, hf⟩ := h
  obtain ⟨xs, n, rfl, hx, _, hxs, hi⟩ := DataW.trod_struct Try.underlying56 hf
  have hxs7 : xs.length = 7 := by simpa using hxs
  have g : ∀ (i : Nat), i < 7 → ∃ y, xs[i]? = some y := fun i h => ⟨xs[i], List.getElem?_eq_getElem (by omega)⟩
  have c1 : Try.prog.cellsOf 3 = 1 := by kernel_rfl
  have c2 : Try.prog.cellsOf 38 = 1 := by kernel_rfl
  have c3 : Try.prog.cellsOf 43 = 1 := by kernel_rfl
  have c4 : Try.prog.cellsOf 42 = 1 := by kernel_rfl
  have c5 : Try.prog.cellsOf 22 = 1 := by kernel_rfl
  obtain ⟨y0, g0⟩ := g 0 (by omega)
  obtain ⟨y1, g1⟩ := g 1 (by omega)
  obtain ⟨y2, g2⟩ := g 2 (by omega)
  obtain ⟨y3, g3⟩ := g 3 (by omega)
  obtain ⟨y4, g4⟩ := g 4 (by omega)
  obtain ⟨y5, g5⟩ := g 5 (by omega)
  obtain ⟨y6, g6⟩ := g 6 (by omega)
  have q0 : DataW.trod enc Try.prog W 0 (fun _ => true) true n 3 [x0] = some y0 := by have := hi 0 _ rfl; rw [g0] at this; simpa [c1, Value.cells] using this
  have q1 : DataW.trod enc Try.prog W 0 (fun _ => true) true n 38 [x1] = some y1 := by have := hi 1 _ rfl; rw [g1] at this; simpa [c2, Value.cells] using this
  have q2 : DataW.trod enc Try.prog W 0 (fun _ => true) true n 3 [x2] = some y2 := by have := hi 2 _ rfl; rw [g2] at this; simpa [c1, Value.cells] using this
  have q3 : DataW.trod enc Try.prog W 0 (fun _ => true) true n 3 [x3] = some y3 := by have := hi 3 _ rfl; rw [g3] at this; simpa [c1, Value.cells] using this
  have q4 : DataW.trod enc Try.prog W 0 (fun _ => true) true n 43 [x4] = some y4 := by have := hi 4 _ rfl; rw [g4] at this; simpa [c3, Value.cells] using this
  have q5 : DataW.trod enc Try.prog W 0 (fun _ => true) true n 42 [x5] = some y5 := by have := hi 5 _ rfl; rw [g5] at this; simpa [c4, Value.cells] using this
  have q6 : DataW.trod enc Try.prog W 0 (fun _ => true) true n 22 [x6] = some y6 := by have := hi 6 _ rfl; rw [g6] at this; simpa [c5, Value.cells] using this
  obtain ⟨b0, e0, _, w0⟩ := DataW.trod_int Try.underlying3 q0
  obtain ⟨b1, e1, _, w1⟩ := DataW.trod_int Try.underlying38 q1
  obtain ⟨b2, e2, _, w2⟩ := DataW.trod_int Try.underlying3 q2
  obtain ⟨b3, e3, _, w3⟩ := DataW.trod_int Try.underlying3 q3
  obtain ⟨b4, e4, _, w4⟩ := DataW.trod_int Try.underlying43 q4
  obtain ⟨A5, n5, m5, z5, rfl, r5⟩ := row_of Try.underlying42 Try.underlying3 c1 q5
  obtain ⟨A6, n6, m6, z6, rfl, r6⟩ := row_of Try.underlying22 Try.underlying5 (by kernel_rfl) q6
  simp only [List.cons.injEq, and_true] at e0 e1 e2 e3 e4
  subst e0 e1 e2 e3 e4
  exact ⟨b0, b1, b2, b3, b4, A5, n5, m5, z5, A6, n6, m6, z6, rfl, w0, w1, w4, r5, r6⟩
set_option maxRecDepth 100000 in
theorem lifted (os : Os) (started : os.Started) (H : Type) (enc : TypeId × Value → H) :
    ReturnsInHanded {} Try.checked os 7 .any (Rows.packCodesSpec.pre6 enc Try.prog Try.f7 Rows.packCodesRow.domain false) (Rows.packCodesSpec.post enc Try.prog Try.f7 false true false false) := by
  refine returnsInHanded_of_change_sized (C := Try.checked) own started (by kernel_rfl) Try.func7
    (ChangeSpec.witness6 (enc := enc) (C := Try.checked) false ⟨#[], #[.agg #[.int .i64 0, .int .u64 0, .int .i64 0, .int .i64 0, .int .u32 0, .slice none 0 0, .slice none 0 0], .slice none 0 0, .int .u64 0, .int .u32 0, .int .u16 0, .int .u16 0, .slice none 0 0, .int .u8 0, .int .u16 0, .int .u8 0], []⟩ 8 (by kernel_rfl) (by kernel_rfl) (by kernel_rfl) (by kernel_rfl)) ?_
  intro W base args ds gs before hval0 hW hcnd hsz0 _
  have hval : ∀ (j : Nat) t v, Try.f7.params[j]? = some t → args[j]? = some v → Value.okWide Try.prog W .any base t v := hval0
  have hW' := hW
  obtain ⟨p, q, hA0, hV, rfl, hfz, hnd⟩ := hW
  have hA : DataW.TrodAll enc Try.prog W 0 (fun _ => true) true Try.f7.params.toList args.toList ds p := hA0
  rw [Try.params7] at hA hval
  obtain ⟨v0, vs0, d0, ds0, p0, q0, hargs, rfl, rfl, h0, r0⟩ := trodAll_cons hA
  obtain ⟨v1, vs1, d1, ds1, p1, q1, rfl, rfl, rfl, h1, r1⟩ := trodAll_cons r0
  obtain ⟨v2, vs2, d2, ds2, p2, q2, rfl, rfl, rfl, h2, r2⟩ := trodAll_cons r1
  obtain ⟨v3, vs3, d3, ds3, p3, q3, rfl, rfl, rfl, h3, r3⟩ := trodAll_cons r2
  obtain ⟨v4, vs4, d4, ds4, p4, q4, rfl, rfl, rfl, h4, r4⟩ := trodAll_cons r3
  obtain ⟨v5, vs5, d5, ds5, p5, q5, rfl, rfl, rfl, h5, r5⟩ := trodAll_cons r4
  obtain ⟨v6, vs6, d6, ds6, p6, q6, rfl, rfl, rfl, h6, r6⟩ := trodAll_cons r5
  obtain ⟨v7, vs7, d7, ds7, p7, q7, rfl, rfl, rfl, h7, r7⟩ := trodAll_cons r6
  obtain ⟨v8, vs8, d8, ds8, p8, q8, rfl, rfl, rfl, h8, r8⟩ := trodAll_cons r7
  obtain ⟨v9, vs9, d9, ds9, p9, q9, rfl, rfl, rfl, h9, r9⟩ := trodAll_cons r8
  obtain ⟨rfl, rfl, rfl⟩ := trodAll_nil r9
  obtain rfl : args = #[v0, v1, v2, v3, v4, v5, v6, v7, v8, v9] := by cases args; simp_all
  obtain ⟨rfl, rfl⟩ := trodVars_none hV
  obtain ⟨a1, len1, cap1, rfl⟩ := okWide_slice Try.underlying22 (hval 1 22 v1 rfl rfl)
  obtain ⟨a6, len6, cap6, rfl⟩ := okWide_slice Try.underlying22 (hval 6 22 v6 rfl rfl)
  have k0 := h0
  have k1 := h1
  have k6 := h6
  have lt0 : ∀ x ∈ p0, x.block < W.heap.size := by obtain ⟨m, hm⟩ := k0; exact DataW.trod_lt m _ _ _ hm
  have lt1 : ∀ x ∈ p1, x.block < W.heap.size := by obtain ⟨m, hm⟩ := k1; exact DataW.trod_lt m _ _ _ hm
  have lt6 : ∀ x ∈ p6, x.block < W.heap.size := by obtain ⟨m, hm⟩ := k6; exact DataW.trod_lt m _ _ _ hm
  obtain ⟨b0, b1, b2, b3, b4, A5, n5, c5, z5, A6, n6, c6, z6, rfl, f0, f1, f4, f5, f6⟩ := open_gram (okWide_struct Try.underlying56 (hval 0 56 v0 rfl rfl)) h0
  obtain ⟨z1, w1⟩ : ∃ zs, IsRow .u8 W a1 len1 cap1 zs := by
    obtain ⟨fuel, hf⟩ := h1
    obtain ⟨_, _, _, zs, e, h⟩ := row_of Try.underlying22 Try.underlying5 (by kernel_rfl) hf
    cases e
    exact ⟨zs, h⟩
  obtain ⟨z6', w6⟩ : ∃ zs, IsRow .u8 W a6 len6 cap6 zs := by
    obtain ⟨fuel, hf⟩ := h6
    obtain ⟨_, _, _, zs, e, h⟩ := row_of Try.underlying22 Try.underlying5 (by kernel_rfl) hf
    cases e
    exact ⟨zs, h⟩
  obtain ⟨a2, rfl, rfl, rfl, w2⟩ := open_int Try.underlying38 (hval 2 38 v2 rfl rfl) h2
  obtain ⟨a3, rfl, rfl, rfl, w3⟩ := open_int Try.underlying43 (hval 3 43 v3 rfl rfl) h3
  obtain ⟨a4, rfl, rfl, rfl, w4⟩ := open_int Try.underlying46 (hval 4 46 v4 rfl rfl) h4
  obtain ⟨a5, rfl, rfl, rfl, w5⟩ := open_int Try.underlying46 (hval 5 46 v5 rfl rfl) h5
  obtain ⟨a7, rfl, rfl, rfl, w7⟩ := open_int Try.underlying5 (hval 7 5 v7 rfl rfl) h7
  obtain ⟨a8, rfl, rfl, rfl, w8⟩ := open_int Try.underlying46 (hval 8 46 v8 rfl rfl) h8
  obtain ⟨a9, rfl, rfl, rfl, w9⟩ := open_int Try.underlying5 (hval 9 5 v9 rfl rfl) h9
  clear hA0 hval0 hsz0 hcnd
  obtain ⟨l1, rfl, R1, m1, hw1, c1⟩ := ReadsInt.ofRowC w1
  obtain ⟨l6, rfl, R6, m6, hw6, c6_⟩ := ReadsInt.ofRowC w6
  obtain ⟨s5, rfl, S5, m5, hs5, d5⟩ := ReadsInt.ofRowC f5
  obtain ⟨s6, rfl, S6, m6', hs6, d6⟩ := ReadsInt.ofRowC f6
  have hf := packCodes_law b0 b1 b2 b3 b4 s5 s6 l1 a2 a3 a4 a5 l6 a7 a8 a9 (Bytes.of_wf hs6) (Bytes.of_wf hw1) (Bytes.of_wf hw6) (bounds_i64 f0) (bounds_u64 f1) (bounds_u32 f4) (bounds_u64 w2) (bounds_u32 w3) (bounds_u16 w8) (bounds_u8 w9)
  have F : ∀ {k : IntKind} {A : Option Addr} {n : Nat} {l : List Int}, ReadsInt W k A n l → Kd.C (Kd.int k) W A n l := fun h => Kd.C_of_reads (d := (0 : Int)) (h1 := fun _ => rfl) h
  refine (scullerlaw13_PackCodes.calls 14000 b0 b1 b2 b3 b4 A5 c5 s5 A6 c6 s6 a1 cap1 l1 a2 a3 a4 a5 a6 cap6 l6 a7 a8 a9 true W (F S5) d5 (F S6) d6 (F R1) c1 (F R6) c6_ hf rfl).mono fun e W' ⟨he, bel⟩ => ?_
  subst he
  exact ⟨_, rfl, _, _, _, [], _, [], hW', trodAll_mk1 (shut_bool Try.underlying4 _), (trodAll_cons_mk (Below.trod laidOut (by kernel_rfl) (of_decide_eq_true (by kernel_rfl)) k0 bel lt0) (trodAll_cons_mk (Below.trod laidOut (by kernel_rfl) (of_decide_eq_true (by kernel_rfl)) k1 bel lt1)
    (trodAll_cons_mk (shut_int Try.underlying38 w2) (trodAll_cons_mk (shut_int Try.underlying43 w3) (trodAll_cons_mk (shut_int Try.underlying46 w4) (trodAll_cons_mk (shut_int Try.underlying46 w5) (trodAll_cons_mk (Below.trod laidOut (by kernel_rfl) (of_decide_eq_true (by kernel_rfl)) k6 bel lt6)
      (trodAll_cons_mk (shut_int Try.underlying5 w7) (trodAll_cons_mk (shut_int Try.underlying46 w8) (trodAll_cons_mk (shut_int Try.underlying5 w9) trodAll_mk0)))))))))), rfl, bel.frame _, fun h => by cases h⟩
set_option maxHeartbeats 40000000 in
theorem closed : joinedFacts Try.pinned.checked.prog 7 Try.f7 Rows.packCodesSpec Rows.packCodesRow = true := by
  unfold joinedFacts
  exact (Bool.and_eq_true_iff.mpr ⟨(Bool.and_eq_true_iff.mpr ⟨(Bool.and_eq_true_iff.mpr ⟨(Bool.and_eq_true_iff.mpr ⟨(Bool.and_eq_true_iff.mpr ⟨(Bool.and_eq_true_iff.mpr ⟨(Bool.and_eq_true_iff.mpr ⟨(Bool.and_eq_true_iff.mpr ⟨(Bool.and_eq_true_iff.mpr ⟨(Bool.and_eq_true_iff.mpr ⟨(Bool.and_eq_true_iff.mpr ⟨(Bool.and_eq_true_iff.mpr ⟨(Bool.and_eq_true_iff.mpr ⟨(Bool.and_eq_true_iff.mpr ⟨(Bool.and_eq_true_iff.mpr ⟨(Bool.and_eq_true_iff.mpr ⟨(Bool.and_eq_true_iff.mpr ⟨(Bool.and_eq_true_iff.mpr ⟨(Bool.and_eq_true_iff.mpr ⟨(Bool.and_eq_true_iff.mpr ⟨(Bool.and_eq_true_iff.mpr ⟨(Bool.and_eq_true_iff.mpr ⟨(Bool.and_eq_true_iff.mpr ⟨(Bool.and_eq_true_iff.mpr ⟨(Bool.and_eq_true_iff.mpr ⟨(Bool.and_eq_true_iff.mpr ⟨(Bool.and_eq_true_iff.mpr ⟨(Bool.and_eq_true_iff.mpr ⟨(Bool.and_eq_true_iff.mpr ⟨(Bool.and_eq_true_iff.mpr ⟨(Bool.and_eq_true_iff.mpr ⟨(by as_aux_lemma => kernel_rfl), (by as_aux_lemma => kernel_rfl)⟩), (by as_aux_lemma => kernel_rfl)⟩), (by as_aux_lemma => kernel_rfl)⟩), (by as_aux_lemma => kernel_rfl)⟩), (by as_aux_lemma => kernel_rfl)⟩), (by as_aux_lemma => kernel_rfl)⟩), (by as_aux_lemma => kernel_rfl)⟩), (by as_aux_lemma => kernel_rfl)⟩), (by as_aux_lemma => kernel_rfl)⟩), (by as_aux_lemma => kernel_rfl)⟩), (by as_aux_lemma => kernel_rfl)⟩), (by as_aux_lemma => kernel_rfl)⟩), (by as_aux_lemma => kernel_rfl)⟩), (by as_aux_lemma => kernel_rfl)⟩), (by as_aux_lemma => kernel_rfl)⟩), (by as_aux_lemma => kernel_rfl)⟩), (by as_aux_lemma => kernel_rfl)⟩), (by as_aux_lemma => kernel_rfl)⟩), (by as_aux_lemma => kernel_rfl)⟩), (by as_aux_lemma => kernel_rfl)⟩), (by as_aux_lemma => kernel_rfl)⟩), (by as_aux_lemma => kernel_rfl)⟩), (by as_aux_lemma => kernel_rfl)⟩), (by as_aux_lemma => kernel_rfl)⟩), Init.mayEnter⟩), (by rw [Init.liftsFinal]; as_aux_lemma => kernel_rfl)⟩), (by rw [Init.make]; as_aux_lemma => kernel_rfl)⟩), (by as_aux_lemma => kernel_rfl)⟩), (by as_aux_lemma => kernel_rfl)⟩), (by as_aux_lemma => kernel_rfl)⟩), (by as_aux_lemma => kernel_rfl)⟩)
theorem over : Rows.packCodesRow.holds Try.pinned (OpenSpec.ofChange Rows.packCodesSpec) :=
  OpenClaim.holds_of_wide 7 Try.f7 rfl rfl rfl rfl rfl rfl rfl ⟨rfl, rfl, rfl, rfl, rfl⟩ rfl rfl rfl rfl rfl (by kernel_rfl) Try.func7 closed
    (of_decide_eq_true (by kernel_rfl)) (by unfold Func.isWrapper; first | (rw [if_pos (by decide +kernel)]; kernel_rfl) | (rw [if_neg (by decide +kernel)]; exact ⟨rfl, rfl⟩))
    (fun os started H enc _ => lifted os started H enc)
theorem proved : Rows.PackCodesSaid := over
#print axioms proved
end Go.Proofs.Ytliohoalackhiaa.packCodes
namespace Go.Proofs.Ytliohoalackhiaa
/-- The row, under a short name, for the claim. -/
theorem packCodes_holds : Rows.PackCodesSaid := packCodes.proved
end Go.Proofs.Ytliohoalackhiaa
