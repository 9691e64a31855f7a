/- keep.New; the three kinds of steps; do. -/
import Derived.Test.YtliohoalackhiaaHTKeepB
namespace Go.Proofs.Ytliohoalackhiaa.T
open Go.ChangeMaps hiding rd
open Go.RowKit Go.Maps Go.Proofs.YtliohoalackhiaaW.PrintWords Go.Proofs.YtliohoalackhiaaW.PrintLast Go.Proofs.YtliohoalackhiaaW.PrintMore
set_option linter.unusedVariables false
set_option linter.unusedSimpArgs false
theorem mapIs_new (w : World) : MapIs (w.alloc (.map #[] 0)) w.heap.size [] := ⟨[], World.ownsMap_made w Try.prog 3 asIs, .nil, fun p hp => by cases hp⟩
theorem loose_nil (w : World) (base : Nat) : Loose w base (.slice none 0 0) [] := ⟨[], Kd.R_nil _ _ _ _ _, .nil⟩
set_option maxRecDepth 100000 in
set_option maxHeartbeats 4000000 in
theorem keep_new (w : World) : Calls Try.prog 15 #[] w fun e w' => ∃ g m1 m2, e = .returned (.pointer (some ⟨g, 0, none⟩)) ∧ Sto w' w.heap.size g m1 m2 (.slice none 0 0) ([], []) ([], []) [] ∧ Below w.heap.size w w' := by
  have hmm := @run_makeMap Try.prog
  go_enter Try.func15, Try.ntmps15
  go_wp2
  go_ret
  have b1 : Below w.heap.size w (w.alloc (.map #[] 0)) := below_alloc (Below.refl _ _) _
  have b2 : Below (w.alloc (.map #[] 0)).heap.size (w.alloc (.map #[] 0)) ((w.alloc (.map #[] 0)).alloc (.map #[] 0)) := below_alloc (Below.refl _ _) _
  have e1 : (w.alloc (.map #[] 0)).heap.size = w.heap.size + 1 := World.size_alloc _ _
  have e2 : ((w.alloc (.map #[] 0)).alloc (.map #[] 0)).heap.size = w.heap.size + 1 + 1 := by rw [World.size_alloc, e1]
  have m1 := mapIs_new w
  have m2 := mapIs_new (w.alloc (.map #[] 0))
  rw [e1] at m2
  have hb3 := blk_new ((w.alloc (.map #[] 0)).alloc (.map #[] 0)) (.cells #[.map (some w.heap.size), .slice none 0 0, .map (some (w.heap.size + 1)), .slice none 0 0, .slice none 0 0] 112)
  rw [e2] at hb3
  have b3 : Below ((w.alloc (.map #[] 0)).alloc (.map #[] 0)).heap.size ((w.alloc (.map #[] 0)).alloc (.map #[] 0)) (((w.alloc (.map #[] 0)).alloc (.map #[] 0)).alloc (.cells #[.map (some w.heap.size), .slice none 0 0, .map (some (w.heap.size + 1)), .slice none 0 0, .slice none 0 0] 112)) := below_alloc (Below.refl _ _) _
  have m1' := (m1.step (softKept_below b2) (b2.block _ (by rw [e1]; omega))).step (softKept_below b3) (b3.block _ (by rw [e2]; omega))
  have m2' := m2.step (softKept_below b3) (b3.block _ (by rw [e2]; omega))
  exact ⟨_, _, _, rfl, ⟨⟨_, _, hb3, Rd.nil _, Rd.nil _⟩, m1', m2', by omega, by omega, Nat.le_refl _, by omega, loose_nil _ _⟩, below_step (below_step b1 b2) b3⟩
theorem wf_i64 {i : Int} (h : -9223372036854775808 ≤ i ∧ i ≤ 9223372036854775807) : (Lit.int .i64 i).wf = true := by
  have := RowKit.wrap64_wf i
  rwa [show RowKit.wrap64 i = i from IntWalk.wrap64_in _ h] at this
set_option maxRecDepth 100000 in
set_option maxHeartbeats 4000000 in
/-- a step's call: Put's -/
theorem put_step (w : World) (g m bb bi : Nat) (v t : Value) (c0 c1 c4 : Value) (i : Int) (H : Hist) (xs : List Int) (hg : w.heap[g]? = some (.cells #[c0, c1, .map (some m), t, c4] 112 (0, 0)))
    (hm : MapIs w m H) (hn : H.length < 1000000) (hi : w.heap[bi]? = some (.cells #[.int .i64 i] 3 (0, 0))) (hb : w.heap[bb]? = some (.cells #[v] 22 (0, 0))) (hr : Rd w v xs) (hi0 : 0 ≤ i ∧ i < 512) :
    Calls Try.prog 69 #[.pointer (some ⟨g, 2, none⟩), .pointer (some ⟨bb, 0, none⟩), .pointer (some ⟨bi, 0, none⟩)] w fun e w' => (∃ v, e = .returned v) ∧ MapIs w' m ((i, xs) :: H) ∧ w.grownBy w' (some m) := by
  have d0 : w.cell? ⟨g, 2, none⟩ = some (.map (some m)) := (blk_cell hg 2).trans rfl
  have d1 : w.cell? ⟨bi, 0, none⟩ = some (.int .i64 i) := (blk_cell hi 0).trans rfl
  have d2 : w.cell? ⟨bb, 0, none⟩ = some v := (blk_cell hb 0).trans rfl
  obtain ⟨A, c, e, hl, hC⟩ := hr.reads
  have HR := Aside0.mk hr
  have HM := Aside0.mk hm
  clear hg hm hi hb hr hC
  subst e
  go_enter Try.func69, Try.ntmps69
  go_wp2
  go_still_tail 6, (by kernel_rfl)
  change wpList _ _ _ _ _ w.drew
  obtain ⟨vals, ho, hv, hbd⟩ := HM.out
  have hlt : m < w.heap.size := ho.lt
  have ho' : w.drew.ownsMap Try.prog 3 asIs m H.length (kindD vals) := ho
  have hml : H.length < maxLen := by unfold maxLen; omega
  have law : Keyed Try.prog 3 := int_keyed Try.underlying3
  refine wpList_mapUpdate_own _ rfl _ _ _ 107 rfl 3 22 law Try.underlying107 asIs m _ _ rfl ho' hml _ _ _ rfl rfl (ikey Try.underlying3 i (wf_i64 (by omega))) _ [] rfl ?_
  intro w1 h1 g1
  have HG := Aside0.mk (show w.grownBy w1 (some m) from ⟨g1.os, g1.tape, g1.output, g1.size, g1.block⟩)
  have hmh := HM.out.hard
  have hsk : SoftKept w w1 := fun k hk => HG.out.block k hk.lt (fun e => by injection e with e; subst e; exact hmh hk)
  have HM1 : Aside0 (MapIs w1 m ((i, xs) :: H)) := ⟨⟨(i, .slice A xs.length c) :: vals, h1, .cons ⟨rfl, HR.out.step hsk⟩ (forall2_imp (fun _ _ h => ⟨h.1, h.2.step hsk⟩) hv), fun p hp => by
    rcases List.mem_cons.1 hp with rfl | hp
    · exact hi0
    · exact hbd p hp⟩⟩
  clear ho ho' hv hbd h1 g1 hmh hsk
  go_wp2
  go_end0
  exact ⟨⟨_, rfl⟩, HM1.out, HG.out⟩
/-- .. Save's -/
theorem save_step (w : World) (g m bb : Nat) (v t : Value) (c0 c1 c4 : Value) (xs : List Int) (hg : w.heap[g]? = some (.cells #[c0, c1, .map (some m), t, c4] 112 (0, 0)))
    (hb : w.heap[bb]? = some (.cells #[v] 22 (0, 0))) (hr : Rd w v xs) :
    Calls Try.prog 108 #[.pointer (some ⟨g, 2, none⟩), .pointer (some ⟨bb, 0, none⟩)] w fun e w' => (∃ v, e = .returned v) ∧ w' = w.setCell ⟨g, 3, none⟩ v := by
  have d2 : w.cell? ⟨bb, 0, none⟩ = some v := (blk_cell hb 0).trans rfl
  have d3 : w.cell? ⟨g, 3, none⟩ = some t := (blk_cell hg 3).trans rfl
  have f3 : w.frozen? ⟨g, 3, none⟩ = false := blk_frozen hg 3
  obtain ⟨A, c, e, hl, hC⟩ := hr.reads
  clear hg hb hr hC
  subst e
  go_enter Try.func108, Try.ntmps108
  go_wp2
  go_end0
  exact ⟨⟨_, rfl⟩, rfl⟩
/-- .. Clear's -/
theorem clear_step (w : World) (g m : Nat) (t : Value) (c0 c1 c4 : Value) (hg : w.heap[g]? = some (.cells #[c0, c1, .map (some m), t, c4] 112 (0, 0))) :
    Calls Try.prog 74 #[.pointer (some ⟨g, 2, none⟩)] w fun e w' => (∃ v, e = .returned v) ∧ w' = ((w.setCell ⟨g, 2, none⟩ (.map (some w.heap.size))).setCell ⟨g, 3, none⟩ (.slice none 0 0)).alloc (.map #[] 0) := by
  have hmm := @run_makeMap Try.prog
  have hlt := blk_lt hg
  have d2 : w.cell? ⟨g, 2, none⟩ = some (.map (some m)) := (blk_cell hg 2).trans rfl
  have d3 : w.cell? ⟨g, 3, none⟩ = some t := (blk_cell hg 3).trans rfl
  have f2 : w.frozen? ⟨g, 2, none⟩ = false := blk_frozen hg 2
  have f3 : w.frozen? ⟨g, 3, none⟩ = false := blk_frozen hg 3
  clear hg
  go_enter Try.func74, Try.ntmps74
  go_wp2
  go_end0
  exact ⟨⟨_, rfl⟩, rfl⟩
/-- a cell of the store's block is written -/
theorem sto_soft {w : World} {g : Nat} {cs : Array Value} (hg : w.heap[g]? = some (.cells cs 112 (0, 0))) : ¬ Soft w g := by
  rintro ⟨cs', t, hc, ht⟩
  rw [hg] at hc
  injection hc with hc
  injection hc with _ e _
  subst e
  revert ht; decide
theorem Sto.hard {w : World} {base g m1 m2 : Nat} {lo : Value} {A1 A2 : Hist × List Int} {steps : List Step} (h : Sto w base g m1 m2 lo A1 A2 steps) {k : Nat} (hk : Own g m1 m2 lo k) : ¬ Soft w k := by
  obtain ⟨⟨t1, t2, hg, r1, r2⟩, h1, h2, ne, bg, b1, b2, hl⟩ := h
  rcases hk with rfl | rfl | rfl | hk
  · exact sto_soft hg
  · exact h1.hard
  · exact h2.hard
  · exact hl.hard hk
theorem Sto.gl {w : World} {base g m1 m2 : Nat} {lo : Value} {A1 A2 : Hist × List Int} {steps : List Step} (h : Sto w base g m1 m2 lo A1 A2 steps) : m1 ≠ g ∧ m2 ≠ g ∧ lo.ownBlock ≠ some g ∧ lo.ownBlock ≠ some m1 ∧ lo.ownBlock ≠ some m2 := by
  obtain ⟨⟨t1, t2, hg, r1, r2⟩, ⟨v1, o1, _⟩, ⟨v2, o2, _⟩, ne, bg, b1, b2, fs, hR, hl⟩ := h
  obtain ⟨es1, c1, hb1, _⟩ := o1
  obtain ⟨es2, c2, hb2, _⟩ := o2
  refine ⟨fun e => ?_, fun e => ?_, fun e => ?_, fun e => ?_, fun e => ?_⟩
  · subst e; rw [hg] at hb1; cases hb1
  · subst e; rw [hg] at hb2; cases hb2
  · obtain ⟨cells, hc⟩ := Kd.R_typed hR _ e
    rw [hg] at hc
    injection hc with hc
    injection hc with _ e2 _
    revert e2; decide
  · obtain ⟨cells, hc⟩ := Kd.R_typed hR _ e
    rw [hb1] at hc; cases hc
  · obtain ⟨cells, hc⟩ := Kd.R_typed hR _ e
    rw [hb2] at hc; cases hc
theorem heap_set {w : World} {g k j : Nat} (u : Value) (h : k ≠ g) : (w.setCell ⟨g, j, none⟩ u).heap[k]? = w.heap[k]? := Below.heap_setCell w ⟨g, j, none⟩ u k h
theorem softKept_set {w : World} {g j : Nat} {cs : Array Value} (hg : w.heap[g]? = some (.cells cs 112 (0, 0))) (u : Value) : SoftKept w (w.setCell ⟨g, j, none⟩ u) := fun k hk => heap_set u (fun e => sto_soft hg (e ▸ hk))
theorem SoftKept.trans {w w1 w2 : World} (h : SoftKept w w1) (h2 : SoftKept w1 w2) : SoftKept w w2 := fun k hk => (h2 k (hk.step (h k hk))).trans (h k hk)
theorem mv_set (w : World) (g j : Nat) (u : Value) {S : Nat → Prop} (hS : S g) : Mv w (w.setCell ⟨g, j, none⟩ u) S :=
  ⟨⟨rfl, rfl, rfl, by simp [World.setCell], fun _ hk => by omega⟩, (Kept.refl w S).setCell (p := ⟨g, j, none⟩) (.inl hS) u⟩
/-- A STEP IS DONE: what is there is as the step makes it. -/
theorem put_sto {w w' : World} {base g m1 m2 : Nat} {lo : Value} {A1 A2 : Hist × List Int} {steps : List Step} (h : Sto w base g m1 m2 lo A1 A2 steps) {H : Hist} (hm : MapIs w' m2 H) (hg : w.grownBy w' (some m2)) :
    Sto w' base g m1 m2 lo A1 (H, A2.2) steps ∧ Mv w w' (Own g m1 m2 lo) := by
  have hne := h.gl
  have hard := h.h2.hard
  have hkeep : ∀ k, k < w.heap.size → k ≠ m2 → w'.heap[k]? = w.heap[k]? := fun k hk hn => hg.block k hk (fun e => hn (by injection e))
  have hs : SoftKept w w' := fun k hk => hkeep k hk.lt (fun e => hard (e ▸ hk))
  have hlt := fun k hk => h.lt (k := k) hk
  obtain ⟨⟨t1, t2, hgc, r1, r2⟩, h1, h2, ne, bg, b1, b2, hl⟩ := h
  refine ⟨⟨⟨t1, t2, (hkeep g (hlt g (.inl rfl)) (Ne.symm hne.2.1)).trans hgc, r1.step hs, r2.step hs⟩, h1.step hs (hkeep m1 (hlt m1 (.inr (.inl rfl))) ne), hm, ne, bg, b1, b2, hl.step hs (fun k hk => hkeep k (hlt k (.inr (.inr (.inr hk)))) (fun e => hne.2.2.2.2 (e ▸ hk)))⟩, ⟨hg.os, hg.tape, hg.output, hg.size, fun _ hk => by omega⟩, hg.size, fun k hk hn => hkeep k hk (fun e => hn (.inr (.inr (.inl e))))⟩
theorem save_sto {w : World} {base g m1 m2 : Nat} {lo : Value} {A1 A2 : Hist × List Int} {steps : List Step} (h : Sto w base g m1 m2 lo A1 A2 steps) {v : Value} {xs : List Int} (hr : Rd w v xs) :
    Sto (w.setCell ⟨g, 3, none⟩ v) base g m1 m2 lo A1 (A2.1, xs) steps ∧ Mv w (w.setCell ⟨g, 3, none⟩ v) (Own g m1 m2 lo) := by
  have hne := h.gl
  obtain ⟨⟨t1, t2, hgc, r1, r2⟩, h1, h2, ne, bg, b1, b2, hl⟩ := h
  have hs := softKept_set (j := 3) hgc v
  refine ⟨⟨⟨t1, v, blk_put hgc 3 v rfl, r1.step hs, hr.step hs⟩, h1.step hs (heap_set v hne.1), h2.step hs (heap_set v hne.2.1), ne, bg, b1, b2, hl.step hs (fun k hk => heap_set v (fun e => hne.2.2.1 (e ▸ hk)))⟩, mv_set w g 3 v (.inl rfl)⟩
theorem clear_sto {w : World} {base g m1 m2 : Nat} {lo : Value} {A1 A2 : Hist × List Int} {steps : List Step} (h : Sto w base g m1 m2 lo A1 A2 steps) :
    Sto (((w.setCell ⟨g, 2, none⟩ (.map (some w.heap.size))).setCell ⟨g, 3, none⟩ (.slice none 0 0)).alloc (.map #[] 0)) base g m1 w.heap.size lo A1 ([], []) steps ∧
      Mv w (((w.setCell ⟨g, 2, none⟩ (.map (some w.heap.size))).setCell ⟨g, 3, none⟩ (.slice none 0 0)).alloc (.map #[] 0)) (Own g m1 m2 lo) := by
  have hne := h.gl
  have hlt := fun k hk => h.lt (k := k) hk
  obtain ⟨⟨t1, t2, hgc, r1, r2⟩, h1, h2, ne, bg, b1, b2, hl⟩ := h
  have hg1 := blk_put hgc 2 (.map (some w.heap.size)) rfl
  have hs1 := softKept_set (j := 2) hgc (.map (some w.heap.size))
  have hg2 := blk_put hg1 3 (.slice none 0 0) rfl
  have hs2 := hs1.trans (softKept_set (j := 3) hg1 (.slice none 0 0))
  have hsz : ((w.setCell ⟨g, 2, none⟩ (.map (some w.heap.size))).setCell ⟨g, 3, none⟩ (.slice none 0 0)).heap.size = w.heap.size := by simp [World.setCell]
  have hk2 : ∀ k, k ≠ g → ((w.setCell ⟨g, 2, none⟩ (.map (some w.heap.size))).setCell ⟨g, 3, none⟩ (.slice none 0 0)).heap[k]? = w.heap[k]? := fun k hk => (heap_set _ hk).trans (heap_set _ hk)
  have mv := (mv_set w g 2 (.map (some w.heap.size)) (S := Own g m1 m2 lo) (.inl rfl)).trans (mv_set (w.setCell ⟨g, 2, none⟩ (.map (some w.heap.size))) g 3 (.slice none 0 0) (S := Own g m1 m2 lo) (.inl rfl)) (fun k hk => .inl hk)
  generalize (w.setCell ⟨g, 2, none⟩ (.map (some w.heap.size))).setCell ⟨g, 3, none⟩ (.slice none 0 0) = w2 at hg2 hs2 hsz hk2 mv ⊢
  have hb : Below w2.heap.size w2 (w2.alloc (.map #[] 0)) := below_alloc (Below.refl _ _) _
  have hs3 := hs2.trans (softKept_below hb)
  have hk3 : ∀ k, k < w.heap.size → k ≠ g → (w2.alloc (.map #[] 0)).heap[k]? = w.heap[k]? := fun k hk hn => (hb.block k (by omega)).trans (hk2 k hn)
  have mN := mapIs_new w2
  rw [hsz] at mN
  refine ⟨⟨⟨t1, _, (hb.block g (by have := hlt g (.inl rfl); omega)).trans hg2, r1.step hs3, Rd.nil _⟩, h1.step hs3 (hk3 m1 (hlt m1 (.inr (.inl rfl))) hne.1), mN, by have := hlt m1 (.inr (.inl rfl)); omega, bg, b1, ?_, hl.step hs3 (fun k hk => hk3 k (hlt k (.inr (.inr (.inr hk)))) (fun e => hne.2.2.1 (e ▸ hk)))⟩, mv.below hb⟩
  have := hlt g (.inl rfl)
  omega
end Go.Proofs.Ytliohoalackhiaa.T
