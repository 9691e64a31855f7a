/- KeepDoes: whatever is put, saved, cleared, flushed, and lost, each answer, and what is there, is what the chapter says. Conditions: none. -/
import Derived.Test.YtliohoalackhiaaRows
import Derived.Test.YtliohoalackhiaaInit
import Derived.Test.YtliohoalackhiaaPTKeepZZ
import Derived.WalkKit
import Derived.ProofKit
import Derived.OpenShut
import Derived.ShutString
import Derived.ChangeOld
import Derived.Below
import Derived.SizedLaws
namespace Go.Proofs.Ytliohoalackhiaa.keepDoes
open Go.ChangeShapes Go.WideShapes Go.ChangeAt Go.RowKit
open Go.Proofs.YtliohoalackhiaaW.PrintWords Go.Proofs.Ytliohoalackhiaa.T
set_option linter.unusedVariables false
theorem own : ownKnob Try.prog.godebug = none := by kernel_rfl
theorem laidOut : laidOutB Try.prog = true := by kernel_rfl
def IsRow (k : IntKind) (w : World) (a : Option Addr) (len cap : Nat) (zs : List Int) : Prop :=
  (a = none ∧ len = 0 ∧ cap = 0 ∧ zs = []) ∨
  ∃ x, a = some x ∧ len ≤ cap ∧ cap ≤ maxLen ∧ zs.length = cap ∧ (∀ i, i < zs.length → w.cell? (x.add i) = some (.int k (zs.getD i 0))) ∧ ∀ n ∈ zs, (Lit.int k n).wf = true
theorem row_of {H : Type} {enc : TypeId × Value → H} {P : Program} {W : World} {t e : TypeId} {k : IntKind} {fuel : Nat} {c : Value} {x : DataW H × List MemPlace} (ht : P.underlying t = some (.slice e)) (he : P.underlying e = some (.int k)) (hc : P.cellsOf e = 1)
    (hf : DataW.trod enc P W 0 (fun _ => true) true fuel t [c] = some x) : ∃ a len cap zs, c = .slice a len cap ∧ IsRow k W a len cap zs := by
  rcases open_ints ht he hc hf with ⟨hcs, _⟩ | ⟨x, l, c, zs, hcs, _, hl, hm, hz, _, hcell, hwz⟩
  · simp only [List.cons.injEq, and_true] at hcs
    subst hcs
    exact ⟨none, 0, 0, [], rfl, .inl ⟨rfl, rfl, rfl, rfl⟩⟩
  · simp only [List.cons.injEq, and_true] at hcs
    subst hcs
    exact ⟨_, _, _, zs, rfl, .inr ⟨_, rfl, hl, hm, by simpa using hz, hcell, hwz⟩⟩
theorem open_bools {H : Type} {enc : TypeId × Value → H} {P : Program} {w : World} {base : Nat} {spare : Nat → Bool} {held : Bool} {t e : TypeId} {fuel : Nat} {cs : List Value} {x : DataW H × List MemPlace} (ht : P.underlying t = some (.slice e)) (he : P.underlying e = some .bool) (hc : P.cellsOf e = 1)
    (h : DataW.trod enc P w base spare held fuel t cs = some x) : ∃ (B : Option Addr) (len cap : Nat) (zs : List Bool), cs = [.slice B len cap] ∧ zs.length = len ∧ len ≤ cap ∧ Kd.C Kd.bool w B zs.length zs := by
  rcases DataW.trod_slice ht h with ⟨rfl, rfl⟩ | ⟨a, len, cap, elems, rest, n, _, rfl, rfl, hb, hl, hm, hlen, hel, hsp, hns⟩
  · exact ⟨none, 0, 0, [], rfl, rfl, Nat.le_refl _, Kd.C_nil _ _⟩
  · have each : ∀ i, i < len → ∃ b : Bool, w.cell? (a.add i) = some (.bool b) := by
      intro i hi
      have hb' := hel i hi
      rw [List.getElem?_eq_getElem (by omega), hc, Nat.mul_one, Option.bind_eq_some_iff] at hb'
      obtain ⟨cs', hcs, hy'⟩ := hb'
      obtain ⟨b, rfl, _⟩ := DataW.trod_bool he hy'
      exact ⟨b, Go.ChangeShapes.cell_of_cells?_one hcs⟩
    have hzl : ((List.range len).map fun i => match w.cell? (a.add i) with | some (.bool b) => b | _ => false).length = len := by simp
    refine ⟨some a, len, cap, (List.range len).map fun i => match w.cell? (a.add i) with | some (.bool b) => b | _ => false, rfl, hzl, hl, ?_⟩
    refine ⟨rfl, Nat.le_trans (Nat.le_of_eq hzl) (Nat.le_trans (Nat.le_trans hl hm) (by decide)), fun _ => ⟨a, rfl, fun j p hj => ⟨[.bool p], rfl, rfl, fun i u hu => ?_⟩⟩⟩
    have hi0 : i = 0 := by
      have := (List.getElem?_eq_some_iff.1 hu).1
      simpa using this
    subst hi0
    have hu' : u = .bool p := by simpa using hu.symm
    subst hu'
    show w.cell? (a.add (j * 1 + 0)) = _
    rw [Nat.mul_one, Nat.add_zero]
    rw [List.getElem?_map] at hj
    by_cases hlt : j < len
    · rw [List.getElem?_range hlt, Option.map_some] at hj
      obtain ⟨b, hb2⟩ := each j hlt
      rw [hb2] at hj ⊢
      rw [← Option.some.inj hj]
    · rw [List.getElem?_eq_none (by simpa using hlt)] at hj
      cases hj
theorem firm_cell {w : World} {a : Addr} {u : Value} (h : w.cell? a = some u) : Firm w.heap.size w (fun W => W.cell? a = some u) := fun W hW => (World.cell?_of_block (w := w) (hW a.block (.inl (World.block_lt_of_cell? w a h)))).trans h
theorem weigh {H : Type} {enc : TypeId × Value → H} {W : World} {t e : TypeId} {fuel : Nat} {A : Option Addr} {len cap : Nat} {x : DataW H × List MemPlace} (ht : Try.prog.underlying t = some (.slice e)) (hf : DataW.trod enc Try.prog W 0 (fun _ => true) true fuel t [.slice A len cap] = some x)
    (hw : ∀ m ∈ x.1.weights Try.prog t, m ≤ reachBytes) : len * Try.prog.bytesOf e ≤ reachBytes := by
  rcases DataW.trod_slice ht hf with ⟨hcs, _⟩ | ⟨a, l, c, elems, rest, n, _, hcs, rfl, _, hl, hm, hlen, _⟩
  · simp only [List.cons.injEq, Value.slice.injEq, and_true] at hcs
    obtain ⟨_, rfl, _⟩ := hcs
    simp
  · simp only [List.cons.injEq, Value.slice.injEq, and_true] at hcs
    obtain ⟨_, rfl, _⟩ := hcs
    have h := hw ((elems.length + rest.length) * Try.prog.bytesOf e) (by simp [DataW.weights, ht])
    rw [hlen] at h
    exact Nat.le_trans (Nat.mul_le_mul_right _ (Nat.le_add_right _ _)) h
theorem open_bytes {H : Type} {enc : TypeId × Value → H} {W : World} {fuel : Nat} {v : Value} {x : DataW H × List MemPlace} (hf : DataW.trod enc Try.prog W 0 (fun _ => true) true fuel 22 [v] = some x) (hw : ∀ m ∈ x.1.weights Try.prog 22, m ≤ reachBytes) :
    ∃ (A : Option Addr) (c : Nat) (l : List Int), v = .slice A l.length c ∧ Firm W.heap.size W (fun w => Kd.C (Kd.int .u8) w A l.length l) ∧ l.length ≤ c ∧ Bytes l ∧ l.length ≤ 140737488351232 := by
  obtain ⟨A, n, c, zs, rfl, hr⟩ := row_of Try.underlying22 Try.underlying5 (by kernel_rfl) hf
  have hwt := weigh Try.underlying22 hf hw
  have hb : Try.prog.bytesOf 5 = 1 := by kernel_rfl
  rw [hb, Nat.mul_one] at hwt
  obtain ⟨l, rfl, R, m, hwf, hc⟩ := ReadsInt.ofRowC hr
  exact ⟨A, c, l, rfl, firm_C (Kd.heap_int .u8) (Kd.C_of_reads (d := (0 : Int)) (h1 := fun _ => rfl) R) (Nat.le_refl _), hc, Bytes.of_wf hwf, hwt⟩
set_option maxRecDepth 100000 in
theorem open_deed {H : Type} {enc : TypeId × Value → H} {W : World} {fuel : Nat} {cs : List Value} {y : DataW H × List MemPlace} (hf : DataW.trod enc Try.prog W 0 (fun _ => true) true fuel 105 cs = some y) (hw : ∀ m ∈ y.1.weights Try.prog 105, m ≤ reachBytes) :
    ∃ d : DV, cs = d.vals ∧ d.ok W.heap.size W ∧ d.fits := by
  obtain ⟨ys, n, _, rfl, hl, hys, hj⟩ := DataW.trod_struct Try.underlying105 hf
  have hl5 : cs.length = 5 := hl.trans (by kernel_rfl)
  obtain ⟨x0, x1, x2, x3, x4, rfl⟩ : ∃ x0 x1 x2 x3 x4, cs = [x0, x1, x2, x3, x4] := by
    match cs, hl5 with
    | [x0, x1, x2, x3, x4], _ => exact ⟨x0, x1, x2, x3, x4, rfl⟩
  have hys5 : ys.length = 5 := by simpa using hys
  have g' : ∀ (i : Nat), i < 5 → ∃ y, ys[i]? = some y := fun i h => ⟨ys[i], List.getElem?_eq_getElem (by omega)⟩
  obtain ⟨m0, e0⟩ := g' 0 (by omega)
  obtain ⟨m1, e1⟩ := g' 1 (by omega)
  obtain ⟨m2, e2⟩ := g' 2 (by omega)
  obtain ⟨m3, e3⟩ := g' 3 (by omega)
  obtain ⟨m4, e4⟩ := g' 4 (by omega)
  have c0 : Try.prog.cellsOf 5 = 1 := by kernel_rfl
  have c1 : Try.prog.cellsOf 3 = 1 := by kernel_rfl
  have c2 : Try.prog.cellsOf 22 = 1 := by kernel_rfl
  have c3 : Try.prog.cellsOf 23 = 1 := by kernel_rfl
  have p0 : DataW.trod enc Try.prog W 0 (fun _ => true) true n 5 [x0] = some m0 := by have := hj 0 _ rfl; rw [e0] at this; simpa [c0] using this
  have p1 : DataW.trod enc Try.prog W 0 (fun _ => true) true n 3 [x1] = some m1 := by have := hj 1 _ rfl; rw [e1] at this; simpa [c1] using this
  have p2 : DataW.trod enc Try.prog W 0 (fun _ => true) true n 22 [x2] = some m2 := by have := hj 2 _ rfl; rw [e2] at this; simpa [c2] using this
  have p3 : DataW.trod enc Try.prog W 0 (fun _ => true) true n 23 [x3] = some m3 := by have := hj 3 _ rfl; rw [e3] at this; simpa [c3] using this
  have p4 : DataW.trod enc Try.prog W 0 (fun _ => true) true n 22 [x4] = some m4 := by have := hj 4 _ rfl; rw [e4] at this; simpa [c2] using this
  have hwe : ∀ (j : Nat) (t : TypeId) (m : DataW H × List MemPlace), [5, 3, 22, 23, 22][j]? = some t → ys[j]? = some m → ∀ q ∈ m.1.weights Try.prog t, q ≤ reachBytes := by
    intro j t m h1 h2 q hq
    refine hw q ?_
    unfold DataW.weights
    rw [Try.underlying105]
    exact DataW.weights_mem_each (ts := [5, 3, 22, 23, 22]) h1 (by rw [List.getElem?_map, h2]; rfl) q hq
  obtain ⟨kd, f0, _, w0⟩ := DataW.trod_int Try.underlying5 p0
  obtain ⟨i, f1, _, w1⟩ := DataW.trod_int Try.underlying3 p1
  obtain ⟨B, cB, bs, rfl, hB, hBl, hBb, hBw⟩ := open_bytes p2 (hwe 2 _ _ rfl e2)
  obtain ⟨C, cC, cs, rfl, hC, hCl, hCb, hCw⟩ := open_bytes p4 (hwe 4 _ _ rfl e4)
  obtain ⟨K, nK, cK, ks, f3, rfl, hKl, hK⟩ := open_bools Try.underlying23 Try.underlying4 (by kernel_rfl) p3
  simp only [List.cons.injEq, and_true] at f0 f1 f3
  subst f0 f1 f3
  have hKw := weigh Try.underlying23 p3 (hwe 3 _ _ rfl e3)
  have hb : Try.prog.bytesOf 4 = 1 := by kernel_rfl
  rw [hb, Nat.mul_one] at hKw
  exact ⟨⟨kd, i, B, cB, bs, K, cK, ks, C, cC, cs⟩, rfl, ⟨bounds_u8 w0, bounds_i64 w1, hB, hBl, hBb, firm_C Kd.heap_bool hK (Nat.le_refl _), hKl, hC, hCl, hCb⟩, hBw, hKw, hCw⟩
theorem weights_all {H : Type} {t : TypeId} : ∀ {l : List (DataW H)} {d : DataW H}, d ∈ l → ∀ n ∈ d.weights Try.prog t, n ∈ DataW.weightsAll Try.prog t l
  | x :: r, d, hd, n, hn => by
    rw [DataW.weightsAll, List.mem_append]
    rcases List.mem_cons.1 hd with rfl | hd
    · exact .inl hn
    · exact .inr (weights_all hd n hn)
set_option maxRecDepth 100000 in
theorem open_deeds {H : Type} {enc : TypeId × Value → H} {W : World} {A : Option Addr} {len cap : Nat} {d : DataW H} {p : List MemPlace} (h : DataW.Trod enc Try.prog W 0 (fun _ => true) true 93 (.slice A len cap) d p) (hw : ∀ m ∈ d.weights Try.prog 93, m ≤ reachBytes) :
    ∃ ds : List DV, len = ds.length ∧ DRow W.heap.size W A ds ∧ ds.length ≤ 1599289640354 ∧ ∀ d ∈ ds, d.fits := by
  obtain ⟨fuel, hf⟩ := h
  have hf : DataW.trod enc Try.prog W 0 (fun _ => true) true fuel 93 [.slice A len cap] = some (d, p) := by simpa [Value.cells] using hf
  have hwt := weigh Try.underlying93 hf hw
  have hb : Try.prog.bytesOf 105 = 88 := by kernel_rfl
  rw [hb] at hwt
  have hr : reachBytes = 140737488351232 := rfl
  rw [hr] at hwt
  rcases DataW.trod_slice Try.underlying93 hf with ⟨hcs, _⟩ | ⟨a, l, c, elems, rest, n, _, hcs, hx, _, hl, hm, hlen, hel, _⟩
  · simp only [List.cons.injEq, Value.slice.injEq, and_true] at hcs
    obtain ⟨rfl, rfl, rfl⟩ := hcs
    exact ⟨[], rfl, fun j d hj => (by simp at hj), by simp, fun d hd => (by cases hd)⟩
  · simp only [List.cons.injEq, Value.slice.injEq, and_true] at hcs
    obtain ⟨rfl, rfl, rfl⟩ := hcs
    have hd : d = .slice (elems.map (·.1)) (rest.map (·.1)) := (Prod.mk.inj hx).1
    have c5 : Try.prog.cellsOf 105 = 5 := by kernel_rfl
    have each : ∀ i, i < len → ∃ dv : DV, (∀ q u, dv.vals[q]? = some u → W.cell? ((a.add (i * 5)).add q) = some u) ∧ dv.ok W.heap.size W ∧ dv.fits := by
      intro i hi
      have hb' := hel i hi
      rw [List.getElem?_eq_getElem (by omega), c5, Option.bind_eq_some_iff] at hb'
      obtain ⟨cs', hcs, hy⟩ := hb'
      obtain ⟨dv, rfl, h1, h2⟩ := open_deed hy (fun q hq => hw q (by
        rw [hd]
        unfold DataW.weights
        rw [Try.underlying93]
        refine List.mem_cons_of_mem _ (List.mem_append.2 (.inl ?_))
        exact weights_all (List.mem_map.2 ⟨_, List.getElem_mem _, rfl⟩) q hq))
      obtain ⟨_, _, hcell⟩ := World.cells?_some hcs
      exact ⟨dv, fun q u hu => (hcell q (List.getElem?_eq_some_iff.1 hu).1).trans hu, h1, h2⟩
    have ⟨f, hfn⟩ : ∃ f : Nat → DV, ∀ i, i < len → (∀ q u, (f i).vals[q]? = some u → W.cell? ((a.add (i * 5)).add q) = some u) ∧ (f i).ok W.heap.size W ∧ (f i).fits :=
      ⟨fun i => if hi : i < len then Classical.choose (each i hi) else ⟨0, 0, none, 0, [], none, 0, [], none, 0, []⟩, fun i hi => by dsimp only; rw [dif_pos hi]; exact Classical.choose_spec (each i hi)⟩
    have at_ : ∀ (j : Nat) (d : DV), ((List.range len).map f)[j]? = some d → j < len ∧ d = f j := by
      intro j d hj
      rw [List.getElem?_map] at hj
      by_cases hlt : j < len
      · rw [List.getElem?_range hlt] at hj
        exact ⟨hlt, (Option.some.inj hj).symm⟩
      · rw [List.getElem?_eq_none (by simpa using hlt)] at hj
        cases hj
    refine ⟨(List.range len).map f, by simp, fun j d hj => ?_, by simp; omega, fun d hd => ?_⟩
    · obtain ⟨hlt, rfl⟩ := at_ j d hj
      obtain ⟨h1, h2, _⟩ := hfn j hlt
      exact ⟨⟨a, rfl, fun q u hu => firm_cell (h1 q u hu)⟩, h2⟩
    · obtain ⟨j, hj⟩ := List.mem_iff_getElem?.1 hd
      obtain ⟨hlt, rfl⟩ := at_ j d hj
      exact (hfn j hlt).2.2
set_option maxRecDepth 100000 in
theorem lifted (os : Os) (started : os.Started) (H : Type) (enc : TypeId × Value → H) :
    ReturnsInHanded {} Try.checked os 13 .any (Rows.keepDoesSpec.pre6 enc Try.prog Try.f13 Rows.keepDoesRow.domain false) (Rows.keepDoesSpec.post enc Try.prog Try.f13 false true false false) := by
  refine returnsInHanded_of_change_sized (C := Try.checked) own started (by kernel_rfl) Try.func13
    (ChangeSpec.witness6 (enc := enc) (C := Try.checked) false ⟨#[], #[.slice none 0 0], []⟩ 8 (by kernel_rfl) (by kernel_rfl) (by kernel_rfl) (by kernel_rfl)) ?_
  intro W base args ds gs before hval0 hW hcnd hsz0 _
  have hsz : (DataW.weightsEach Try.prog (Try.f13.params.toList ++ Rows.keepDoesSpec.plain.varTypes Try.prog) (ds ++ gs)).all (· ≤ reachBytes) = true := hsz0
  have hval : ∀ (j : Nat) t v, Try.f13.params[j]? = some t → args[j]? = some v → Value.okWide Try.prog W .any base t v := hval0
  have hW' := hW
  obtain ⟨p, q, hA0, hV, rfl, hfz, hnd⟩ := hW
  have hA : DataW.TrodAll enc Try.prog W 0 (fun _ => true) true Try.f13.params.toList args.toList ds p := hA0
  rw [Try.params13] at hA hval hsz
  obtain ⟨v0, vs0, d0, ds0, p0, q0, hargs, rfl, rfl, h0, r0⟩ := trodAll_cons hA
  obtain ⟨rfl, rfl, rfl⟩ := trodAll_nil r0
  obtain rfl : args = #[v0] := by cases args; simp_all
  obtain ⟨rfl, rfl⟩ := trodVars_none hV
  obtain ⟨a0, len0, cap0, rfl⟩ := okWide_slice Try.underlying93 (hval 0 93 v0 rfl rfl)
  have k0 := h0
  have lt0 : ∀ x ∈ p0, x.block < W.heap.size := by obtain ⟨m, hm⟩ := k0; exact DataW.trod_lt m _ _ _ hm
  have hw0 : ∀ m ∈ d0.weights Try.prog 93, m ≤ reachBytes := fun m hm => by
    have := List.all_eq_true.1 hsz _ (DataW.weights_mem_each (j := 0) rfl rfl m hm)
    simpa using this
  obtain ⟨dd, rfl, hD, hl, hft⟩ := open_deeds h0 hw0
  clear hA0 hval0 hsz0 hsz
  refine (does_walk W a0 cap0 dd hD hl hft).mono fun e W' ⟨he, bel⟩ => ?_
  subst he
  exact ⟨_, rfl, _, _, _, [], _, [], hW', trodAll_mk1 (shut_bool Try.underlying4 _), (trodAll_cons_mk (Below.trod laidOut (by kernel_rfl) (of_decide_eq_true (by kernel_rfl)) k0 bel lt0) trodAll_mk0), rfl, bel.frame _, fun h => by cases h⟩
set_option maxHeartbeats 40000000 in
theorem closed : joinedFacts Try.pinned.checked.prog 13 Try.f13 Rows.keepDoesSpec Rows.keepDoesRow = true := by
  unfold joinedFacts
  exact (Bool.and_eq_true_iff.mpr ⟨(Bool.and_eq_true_iff.mpr ⟨(Bool.and_eq_true_iff.mpr ⟨(Bool.and_eq_true_iff.mpr ⟨(Bool.and_eq_true_iff.mpr ⟨(Bool.and_eq_true_iff.mpr ⟨(Bool.and_eq_true_iff.mpr ⟨(Bool.and_eq_true_iff.mpr ⟨(Bool.and_eq_true_iff.mpr ⟨(Bool.and_eq_true_iff.mpr ⟨(Bool.and_eq_true_iff.mpr ⟨(Bool.and_eq_true_iff.mpr ⟨(Bool.and_eq_true_iff.mpr ⟨(Bool.and_eq_true_iff.mpr ⟨(Bool.and_eq_true_iff.mpr ⟨(Bool.and_eq_true_iff.mpr ⟨(Bool.and_eq_true_iff.mpr ⟨(Bool.and_eq_true_iff.mpr ⟨(Bool.and_eq_true_iff.mpr ⟨(Bool.and_eq_true_iff.mpr ⟨(Bool.and_eq_true_iff.mpr ⟨(Bool.and_eq_true_iff.mpr ⟨(Bool.and_eq_true_iff.mpr ⟨(Bool.and_eq_true_iff.mpr ⟨(Bool.and_eq_true_iff.mpr ⟨(Bool.and_eq_true_iff.mpr ⟨(Bool.and_eq_true_iff.mpr ⟨(Bool.and_eq_true_iff.mpr ⟨(Bool.and_eq_true_iff.mpr ⟨(Bool.and_eq_true_iff.mpr ⟨(Bool.and_eq_true_iff.mpr ⟨(by as_aux_lemma => kernel_rfl), (by as_aux_lemma => kernel_rfl)⟩), (by as_aux_lemma => kernel_rfl)⟩), (by as_aux_lemma => kernel_rfl)⟩), (by as_aux_lemma => kernel_rfl)⟩), (by as_aux_lemma => kernel_rfl)⟩), (by as_aux_lemma => kernel_rfl)⟩), (by as_aux_lemma => kernel_rfl)⟩), (by as_aux_lemma => kernel_rfl)⟩), (by as_aux_lemma => kernel_rfl)⟩), (by as_aux_lemma => kernel_rfl)⟩), (by as_aux_lemma => kernel_rfl)⟩), (by as_aux_lemma => kernel_rfl)⟩), (by as_aux_lemma => kernel_rfl)⟩), (by as_aux_lemma => kernel_rfl)⟩), (by as_aux_lemma => kernel_rfl)⟩), (by as_aux_lemma => kernel_rfl)⟩), (by as_aux_lemma => kernel_rfl)⟩), (by as_aux_lemma => kernel_rfl)⟩), (by as_aux_lemma => kernel_rfl)⟩), (by as_aux_lemma => kernel_rfl)⟩), (by as_aux_lemma => kernel_rfl)⟩), (by as_aux_lemma => kernel_rfl)⟩), (by as_aux_lemma => kernel_rfl)⟩), (by as_aux_lemma => kernel_rfl)⟩), Init.mayEnter⟩), (by rw [Init.liftsFinal]; as_aux_lemma => kernel_rfl)⟩), (by rw [Init.make]; as_aux_lemma => kernel_rfl)⟩), (by as_aux_lemma => kernel_rfl)⟩), (by as_aux_lemma => kernel_rfl)⟩), (by as_aux_lemma => kernel_rfl)⟩), (by as_aux_lemma => kernel_rfl)⟩)
theorem over : Rows.keepDoesRow.holds Try.pinned (OpenSpec.ofChange Rows.keepDoesSpec) :=
  OpenClaim.holds_of_wide 13 Try.f13 rfl rfl rfl rfl rfl rfl rfl ⟨rfl, rfl, rfl, rfl, rfl⟩ rfl rfl rfl rfl rfl (by kernel_rfl) Try.func13 closed
    (of_decide_eq_true (by kernel_rfl)) (by unfold Func.isWrapper; first | (rw [if_pos (by decide +kernel)]; kernel_rfl) | (rw [if_neg (by decide +kernel)]; exact ⟨rfl, rfl⟩))
    (fun os started H enc _ => lifted os started H enc)
theorem proved : Rows.KeepDoesSaid := over
#print axioms proved
end Go.Proofs.Ytliohoalackhiaa.keepDoes
namespace Go.Proofs.Ytliohoalackhiaa
theorem keepDoes_holds : Rows.KeepDoesSaid := keepDoes.proved
end Go.Proofs.Ytliohoalackhiaa
