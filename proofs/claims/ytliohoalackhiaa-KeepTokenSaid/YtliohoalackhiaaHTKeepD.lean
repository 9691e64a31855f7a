/- What is done to a store: do, Put, Clear. -/
import Derived.Test.YtliohoalackhiaaHTKeepC
namespace Go.Proofs.Ytliohoalackhiaa.T
open Go.ChangeMaps hiding rd
open Go.RowKit Go.Maps Go.Proofs.YtliohoalackhiaaW.PrintWords Go.Proofs.YtliohoalackhiaaW.PrintLast Go.Proofs.YtliohoalackhiaaW.PrintMore
set_option linter.unusedVariables false
set_option linter.unusedSimpArgs false
theorem infoStep : (Try.prog.info? 119).map (fun i => (i.zero, i.size, i.bytes)) = some (some .nilFunc, 1, 8) := by kernel_rfl
/-- a step is laid behind the others -/
theorem app_sto {W w2 : World} {base g m1 m2 : Nat} {lo v1 : Value} {A1 A2 : Hist × List Int} {steps : List Step} (h : Sto W base g m1 m2 lo A1 A2 steps) {f : Value} {s : Step} (hf : IsStep W f s) {fs : List Value} (hfs : All2 (IsStep W) fs steps)
    (hR : (Kd.raw 1).R 119 w2 base (fun _ => True) v1 ((fs.map fun f => [f]) ++ [[f]])) (hg : W.grownBy w2 lo.ownBlock) (hat : v1.ownBlock = lo.ownBlock ∨ ∃ b, v1.ownBlock = some b ∧ W.heap.size ≤ b) :
    Sto (w2.setCell ⟨g, 4, none⟩ v1) base g m1 m2 v1 A1 A2 (steps ++ [s]) ∧ Mv W (w2.setCell ⟨g, 4, none⟩ v1) (Own g m1 m2 lo) ∧ (∀ k, Own g m1 m2 v1 k → Own g m1 m2 lo k ∨ W.heap.size ≤ k) := by
  have hne := h.gl
  have hlt := fun k hk => h.lt (k := k) hk
  have hsoft : ∀ k, lo.ownBlock = some k → ¬ Soft W k := fun k hk => h.hl.hard hk
  obtain ⟨⟨t1, t2, hgc, r1, r2⟩, h1, h2, ne, bg, b1, b2, hl⟩ := h
  have hk2 : ∀ k, k < W.heap.size → lo.ownBlock ≠ some k → w2.heap[k]? = W.heap[k]? := fun k hk hn => hg.block k hk (fun e => hn e.symm)
  have hs2 : SoftKept W w2 := fun k hk => hk2 k hk.lt (fun e => hsoft k e hk)
  have hg2 : w2.heap[g]? = _ := (hk2 g (hlt g (.inl rfl)) hne.2.2.1).trans hgc
  have hs3 := hs2.trans (softKept_set (j := 4) hg2 v1)
  have hv1 : v1.ownBlock ≠ some g := by
    rcases hat with e | ⟨b, e, hb⟩
    · rw [e]; exact hne.2.2.1
    · rw [e]; intro e2; injection e2 with e2; have := hlt g (.inl rfl); omega
  have hm : ∀ k, k < W.heap.size → k ≠ g → lo.ownBlock ≠ some k → (w2.setCell ⟨g, 4, none⟩ v1).heap[k]? = W.heap[k]? := fun k hk h1 h2 => (heap_set v1 h1).trans (hk2 k hk h2)
  refine ⟨⟨⟨t1, t2, blk_put hg2 4 v1 rfl, r1.step hs3, r2.step hs3⟩, h1.step hs3 (hm m1 (hlt m1 (.inr (.inl rfl))) hne.1 hne.2.2.2.1), h2.step hs3 (hm m2 (hlt m2 (.inr (.inr (.inl rfl)))) hne.2.1 hne.2.2.2.2), ne, bg, b1, b2, ?_⟩, ⟨⟨hg.os, hg.tape, hg.output, by simpa [World.setCell] using hg.size, fun _ hk => by omega⟩, by simpa [World.setCell] using hg.size, fun k hk hn => hm k hk (fun e => hn (.inl e)) (fun e => hn (.inr (.inr (.inr e))))⟩, fun k hk => ?_⟩
  · refine ⟨fs ++ [f], ?_, (forall2_imp (fun _ _ h => h.step hs3) hfs).append (.cons (hf.step hs3) .nil)⟩
    rw [List.map_append]
    exact Kd.R_mono (Kd.R_step (Kd.R_tight rfl hR) (fun k hk _ => heap_set v1 (fun e => hv1 (e ▸ hk.symm)))) (fun _ _ => trivial)
  · rcases hk with hk | hk | hk | hk
    · exact .inl (.inl hk)
    · exact .inl (.inr (.inl hk))
    · exact .inl (.inr (.inr (.inl hk)))
    · rcases hat with e | ⟨b, e, hb⟩
      · exact .inl (.inr (.inr (.inr (e ▸ hk))))
      · rw [e] at hk; injection hk with hk; exact .inr (hk ▸ hb)
theorem Mv.soft {w w' : World} {base g m1 m2 : Nat} {lo : Value} {A1 A2 : Hist × List Int} {steps : List Step} (mv : Mv w w' (Own g m1 m2 lo)) (h : Sto w base g m1 m2 lo A1 A2 steps) : SoftKept w w' := fun k hk => mv.k.2 k hk.lt (fun q => h.hard q hk)
set_option maxRecDepth 100000 in
set_option maxHeartbeats 4000000 in
theorem keep_do (w : World) (base g m1 m2 : Nat) (lo : Value) (A1 A2 : Hist × List Int) (steps : List Step) (h : Sto w base g m1 m2 lo A1 A2 steps) (hbase : base ≤ w.heap.size) (f : Value) (s : Step) (hf : IsStep w f s) (hn : A2.1.length < 1000000) (hs : steps.length < 1000000) :
    Calls Try.prog 68 #[.pointer (some ⟨g, 0, none⟩), f] w fun e w' => (∃ v, e = .returned v) ∧ ∃ m2' lo', Sto w' base g m1 m2' lo' A1 (app s A2) (steps ++ [s]) ∧ Mv w w' (Own g m1 m2 lo) ∧ (∀ k, Own g m1 m2' lo' k → Own g m1 m2 lo k ∨ w.heap.size ≤ k) := by
  have HS := Aside0.mk h
  have HF := Aside0.mk hf
  cases s with
  | put i xs =>
    obtain ⟨bb, bi, v, rfl, hi, hb, hr, hi0⟩ := hf
    obtain ⟨⟨t1, t2, hgc, r1, r2⟩, h1, h2, ne, bg, b1, b2, hl⟩ := h
    have HC := Aside0.mk (put_step w g m2 bb bi v t2 (.map (some m1)) t1 lo i A2.1 xs hgc h2 hn hi hb hr hi0)
    clear hi hb hr hi0 hgc r1 r2 h1 h2 ne bg b1 b2 hl
    go_enter Try.func68, Try.ntmps68
    go_wp2_with fail
    refine HC.out.mono ?_
    rintro e w1 ⟨⟨rv, rfl⟩, hm, hg⟩
    obtain ⟨hS1, hV1⟩ := put_sto HS.out hm hg
    have hS1_ := hS1
    clear hm hg
    have HV1 := Aside0.mk hV1
    have HF1 := Aside0.mk (HF.out.step (hV1.soft HS.out))
    have hb1 : base ≤ w1.heap.size := Nat.le_trans hbase hV1.b.size
    obtain ⟨⟨u1, u2, hg1, q1, q2⟩, _, _, _, _, _, _, fs, hR, hfs⟩ := hS1
    have HS1 := Aside0.mk hS1_
    have HG1 := Aside0.mk hg1
    have HR := Aside0.mk hR
    have HFS := Aside0.mk hfs
    have hfl : fs.length = steps.length := hfs.length
    have d4 : w1.cell? ⟨g, 4, none⟩ = some lo := (blk_cell hg1 4).trans rfl
    have hlen : (fs.map fun f => [f]).length = fs.length := List.length_map _
    clear hV1 hS1_ hg1 q1 q2 hR hfs
    go_wp2_with (at_builtin; refine Kd.R_append (Kd.raw 1) (w0 := w1) base rfl (.tmp 13) (.tmp 15) 110 119 .nilFunc 8 rfl Try.underlying110 infoStep rfl (by decide) (by omega) lo (fs.map fun f => [f]) [(.func (.func 69) #[] #[.pointer (some ⟨bb, 0, none⟩), .pointer (some ⟨bi, 0, none⟩)])] [(.func (.func 69) #[] #[.pointer (some ⟨bb, 0, none⟩), .pointer (some ⟨bi, 0, none⟩)])] (fun _ => True) (fun _ => False) rfl rfl ⟨rfl, rfl, fun u hu => by rw [List.mem_singleton.1 hu]; rfl⟩ (fun _ hk => hk.elim) (fun _ _ => trivial) HR.out (Below.refl _ _) hb1 (by omega) ?_; intro v1 w2 ho hb hg2 hat; obtain ⟨Av, cv, ev⟩ := Kd.R_slice ho; generalize hnn_ : List.length _ = nn at ev; clear hnn_; subst ev; have HO := Aside0.mk ho; have HG2 := Aside0.mk hg2; have HAT := Aside0.mk hat; have hgg := (HG2.out.block g (blk_lt HG1.out) (fun e => HS1.out.gl.2.2.1 e.symm)).trans HG1.out; have e4 : w2.cell? ⟨g, 4, none⟩ = some lo := (blk_cell hgg 4).trans rfl; have f4 : w2.frozen? ⟨g, 4, none⟩ = false := blk_frozen hgg 4; clear ho hb hg2 hat hgg d4)
    go_end0
    obtain ⟨r1, r2, r3⟩ := app_sto HS1.out HF1.out HFS.out HO.out HG2.out HAT.out
    exact ⟨⟨_, rfl⟩, _, _, r1, HV1.out.trans r2 (fun k q => .inl q), fun k hk => (r3 k hk).elim (fun q => .inl q) (fun q => .inr (Nat.le_trans HV1.out.b.size q))⟩
  | save xs =>
    obtain ⟨bb, v, rfl, hb, hr⟩ := hf
    obtain ⟨⟨t1, t2, hgc, r1, r2⟩, h1, h2, ne, bg, b1, b2, hl⟩ := h
    have HC := Aside0.mk (save_step w g m2 bb v t2 (.map (some m1)) t1 lo xs hgc hb hr)
    have HRD := Aside0.mk hr
    clear hb hr hgc r1 r2 h1 h2 ne bg b1 b2 hl
    go_enter Try.func68, Try.ntmps68
    go_wp2_with fail
    refine HC.out.mono ?_
    rintro e w1 ⟨⟨rv, rfl⟩, hw⟩
    obtain ⟨hS1, hV1⟩ := save_sto HS.out HRD.out
    rw [← hw] at hS1 hV1
    have hS1_ := hS1
    clear hw
    have HV1 := Aside0.mk hV1
    have HF1 := Aside0.mk (HF.out.step (hV1.soft HS.out))
    have hb1 : base ≤ w1.heap.size := Nat.le_trans hbase hV1.b.size
    obtain ⟨⟨u1, u2, hg1, q1, q2⟩, _, _, _, _, _, _, fs, hR, hfs⟩ := hS1
    have HS1 := Aside0.mk hS1_
    have HG1 := Aside0.mk hg1
    have HR := Aside0.mk hR
    have HFS := Aside0.mk hfs
    have hfl : fs.length = steps.length := hfs.length
    have d4 : w1.cell? ⟨g, 4, none⟩ = some lo := (blk_cell hg1 4).trans rfl
    have hlen : (fs.map fun f => [f]).length = fs.length := List.length_map _
    clear hV1 hS1_ hg1 q1 q2 hR hfs
    go_wp2_with (at_builtin; refine Kd.R_append (Kd.raw 1) (w0 := w1) base rfl (.tmp 13) (.tmp 15) 110 119 .nilFunc 8 rfl Try.underlying110 infoStep rfl (by decide) (by omega) lo (fs.map fun f => [f]) [(.func (.func 108) #[] #[.pointer (some ⟨bb, 0, none⟩)])] [(.func (.func 108) #[] #[.pointer (some ⟨bb, 0, none⟩)])] (fun _ => True) (fun _ => False) rfl rfl ⟨rfl, rfl, fun u hu => by rw [List.mem_singleton.1 hu]; rfl⟩ (fun _ hk => hk.elim) (fun _ _ => trivial) HR.out (Below.refl _ _) hb1 (by omega) ?_; intro v1 w2 ho hb hg2 hat; obtain ⟨Av, cv, ev⟩ := Kd.R_slice ho; generalize hnn_ : List.length _ = nn at ev; clear hnn_; subst ev; have HO := Aside0.mk ho; have HG2 := Aside0.mk hg2; have HAT := Aside0.mk hat; have hgg := (HG2.out.block g (blk_lt HG1.out) (fun e => HS1.out.gl.2.2.1 e.symm)).trans HG1.out; have e4 : w2.cell? ⟨g, 4, none⟩ = some lo := (blk_cell hgg 4).trans rfl; have f4 : w2.frozen? ⟨g, 4, none⟩ = false := blk_frozen hgg 4; clear ho hb hg2 hat hgg d4)
    go_end0
    obtain ⟨r1, r2, r3⟩ := app_sto HS1.out HF1.out HFS.out HO.out HG2.out HAT.out
    exact ⟨⟨_, rfl⟩, _, _, r1, HV1.out.trans r2 (fun k q => .inl q), fun k hk => (r3 k hk).elim (fun q => .inl q) (fun q => .inr (Nat.le_trans HV1.out.b.size q))⟩
  | clear =>
    obtain rfl : f = (.func (.func 74) #[] #[]) := hf
    obtain ⟨⟨t1, t2, hgc, r1, r2⟩, h1, h2, ne, bg, b1, b2, hl⟩ := h
    have HC := Aside0.mk (clear_step w g m2 t2 (.map (some m1)) t1 lo hgc)
    clear hgc r1 r2 h1 h2 ne bg b1 b2 hl
    go_enter Try.func68, Try.ntmps68
    go_wp2_with fail
    refine HC.out.mono ?_
    rintro e w1 ⟨⟨rv, rfl⟩, hw⟩
    obtain ⟨hS1, hV1⟩ := clear_sto HS.out
    rw [← hw] at hS1 hV1
    have hS1_ := hS1
    clear hw
    have HV1 := Aside0.mk hV1
    have HF1 := Aside0.mk (HF.out.step (hV1.soft HS.out))
    have hb1 : base ≤ w1.heap.size := Nat.le_trans hbase hV1.b.size
    obtain ⟨⟨u1, u2, hg1, q1, q2⟩, _, _, _, _, _, _, fs, hR, hfs⟩ := hS1
    have HS1 := Aside0.mk hS1_
    have HG1 := Aside0.mk hg1
    have HR := Aside0.mk hR
    have HFS := Aside0.mk hfs
    have hfl : fs.length = steps.length := hfs.length
    have d4 : w1.cell? ⟨g, 4, none⟩ = some lo := (blk_cell hg1 4).trans rfl
    have hlen : (fs.map fun f => [f]).length = fs.length := List.length_map _
    clear hV1 hS1_ hg1 q1 q2 hR hfs
    go_wp2_with (at_builtin; refine Kd.R_append (Kd.raw 1) (w0 := w1) base rfl (.tmp 13) (.tmp 15) 110 119 .nilFunc 8 rfl Try.underlying110 infoStep rfl (by decide) (by omega) lo (fs.map fun f => [f]) [(.func (.func 74) #[] #[])] [(.func (.func 74) #[] #[])] (fun _ => True) (fun _ => False) rfl rfl ⟨rfl, rfl, fun u hu => by rw [List.mem_singleton.1 hu]; rfl⟩ (fun _ hk => hk.elim) (fun _ _ => trivial) HR.out (Below.refl _ _) hb1 (by omega) ?_; intro v1 w2 ho hb hg2 hat; obtain ⟨Av, cv, ev⟩ := Kd.R_slice ho; generalize hnn_ : List.length _ = nn at ev; clear hnn_; subst ev; have HO := Aside0.mk ho; have HG2 := Aside0.mk hg2; have HAT := Aside0.mk hat; have hgg := (HG2.out.block g (blk_lt HG1.out) (fun e => HS1.out.gl.2.2.1 e.symm)).trans HG1.out; have e4 : w2.cell? ⟨g, 4, none⟩ = some lo := (blk_cell hgg 4).trans rfl; have f4 : w2.frozen? ⟨g, 4, none⟩ = false := blk_frozen hgg 4; clear ho hb hg2 hat hgg d4)
    go_end0
    obtain ⟨r1, r2, r3⟩ := app_sto HS1.out HF1.out HFS.out HO.out HG2.out HAT.out
    exact ⟨⟨_, rfl⟩, _, _, r1, HV1.out.trans r2 (fun k q => by rcases q with q | q | q | q; exact .inl (.inl q); exact .inl (.inr (.inl q)); exact .inr (by omega); exact .inl (.inr (.inr (.inr q)))), fun k hk => (r3 k hk).elim ((fun (k : Nat) (q : Own g m1 w.heap.size lo k) => (by rcases q with q | q | q | q; exact .inl (.inl q); exact .inl (.inr (.inl q)); exact .inr (by omega); exact .inl (.inr (.inr (.inr q))) : Own g m1 m2 lo k ∨ w.heap.size ≤ k)) k) (fun q => .inr (Nat.le_trans HV1.out.b.size q))⟩
end Go.Proofs.Ytliohoalackhiaa.T
