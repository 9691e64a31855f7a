/- Copies of a store's maps; Flush. -/
import Derived.Test.YtliohoalackhiaaHTKeepE
import Derived.Deep.RegionWith
namespace Go.Proofs.Ytliohoalackhiaa.T
open Go.ChangeMaps hiding rd
open Go.RowKit Go.Maps Go.Proofs.YtliohoalackhiaaW.PrintWords Go.Proofs.YtliohoalackhiaaW.PrintLast Go.Proofs.YtliohoalackhiaaW.PrintMore
set_option linter.unusedVariables false
set_option linter.unusedSimpArgs false
set_option maxRecDepth 100000 in
set_option maxHeartbeats 4000000 in
theorem clone_map (w : World) (m : Nat) (H : Hist) (h : MapIs w m H) :
    Calls Try.prog 121 #[.map (some m)] w fun e w' => e = .returned (.map (some w.heap.size)) ∧ MapIs w' w.heap.size H ∧ Below w.heap.size w w' := by
  have HM := Aside0.mk h
  obtain ⟨vals, ⟨es, clock, hb, F, hs, hD⟩, hv, hbd⟩ := h
  have hq := fun w => run_eql_map_nil_sl (P := Try.prog) w 107 _ _ (some m) Try.underlying107
  go_enter Try.func121, Try.ntmps121
  go_wp2
  rw [run_callFunc_extern Try.func147 (by kernel_rfl) (by kernel_rfl) (by kernel_rfl) (e := Extern.MapsClone.clone) (by kernel_rfl), run_maps_clone_sl w 107 hb]
  simp only [Result.andThen]
  rw [Oper.upon_value]
  go_wp2
  rw [run_typeAssert_map_sl _ 107 _ _ _ _ Try.underlying107]
  simp only [Result.andThen]
  rw [Oper.upon_value]
  go_wp2
  go_ret
  have hB : Below w.heap.size w (w.alloc (.map es clock)) := (Below.refl _ w).alloc (Nat.le_refl _) _
  have hs2 := softKept_below hB
  exact ⟨rfl, ⟨vals, ⟨es, clock, (MapKept.heap_alloc w _).1, F, hs, hD⟩, forall2_imp (fun _ _ h => ⟨h.1, h.2.step hs2⟩) hv, hbd⟩, hB⟩
set_option maxRecDepth 100000 in
set_option maxHeartbeats 4000000 in
theorem copied_any (w : World) (m : Nat) (H : Hist) (t : Value) (tok : List Int) (h : MapIs w m H) (ht : Rd w t tok) :
    Calls Try.prog 70 #[.agg #[.map (some m), t]] w fun e w' => ∃ m', e = .returned (.agg #[.map (some m'), t]) ∧ w.heap.size ≤ m' ∧ MapIs w' m' H ∧ Below w.heap.size w w' := by
  have HM := Aside0.mk h
  obtain ⟨A, c, e, hl, hC⟩ := ht.reads
  have HT := Aside0.mk ht
  clear h ht hC
  subst e
  go_enter Try.func70, Try.ntmps70
  go_wp2_with fail
  have hx := blk_new w (.cells #[.map (some m), .slice A tok.length c] 109)
  have hb1 := below_alloc (Below.refl w.heap.size w) (.cells #[.map (some m), .slice A tok.length c] 109)
  have hsz := World.size_alloc w (.cells #[.map (some m), .slice A tok.length c] 109)
  generalize w.alloc (.cells #[.map (some m), .slice A tok.length c] 109) = wa at hx hb1 hsz ⊢
  have hy := blk_new wa (.cells #[.map none, .slice none 0 0] 109)
  have hb2 := below_alloc (Below.refl wa.heap.size wa) (.cells #[.map none, .slice none 0 0] 109)
  rw [hsz] at hy
  generalize wa.alloc (.cells #[.map none, .slice none 0 0] 109) = W at hy hb2 ⊢
  have HX := Aside0.mk (blk_below hx hb2)
  have HY := Aside0.mk hy
  have HB := Aside0.mk (below_step hb1 hb2)
  have HMW := Aside0.mk ((HM.out.step (softKept_below HB.out) (HB.out.block m HM.out.lt)))
  have HCL := Aside0.mk (clone_map W.drew m H (HMW.out.step (fun _ _ => rfl) rfl))
  have d0 : W.cell? ⟨w.heap.size, 0, none⟩ = some (.map (some m)) := (blk_cell HX.out 0).trans rfl
  have d1 : W.cell? ⟨w.heap.size, 1, none⟩ = some (.slice A tok.length c) := (blk_cell HX.out 1).trans rfl
  clear hx hb1 hsz hy hb2
  go_region_with (go_at_call 121; refine HCL.out.mono ?_; rintro e w' ⟨rfl, hm', hb'⟩; have HM' := Aside0.mk hm'; have HB' := Aside0.mk (show Below W.heap.size W w' from ⟨hb'.os, hb'.tape, hb'.output, hb'.size, hb'.block⟩); have e0 : w'.cell? ⟨w.heap.size, 0, none⟩ = some (.map (some m)) := (blk_cell (blk_below HX.out HB'.out) 0).trans rfl; have e1 : w'.cell? ⟨w.heap.size, 1, none⟩ = some (.slice A tok.length c) := (blk_cell (blk_below HX.out HB'.out) 1).trans rfl; have g0 : w'.cell? ⟨w.heap.size + 1, 0, none⟩ = some (.map none) := (blk_cell (blk_below HY.out HB'.out) 0).trans rfl; have g1 : w'.cell? ⟨w.heap.size + 1, 1, none⟩ = some (.slice none 0 0) := (blk_cell (blk_below HY.out HB'.out) 1).trans rfl; have f0 : w'.frozen? ⟨w.heap.size + 1, 0, none⟩ = false := blk_frozen (blk_below HY.out HB'.out) 0; have f1 : w'.frozen? ⟨w.heap.size + 1, 1, none⟩ = false := blk_frozen (blk_below HY.out HB'.out) 1; clear hm' hb' HCL)
  all_goals go_wp2
  all_goals
    have hB2 := below_step HB.out HB'.out
    have hp0 := blk_put (blk_below HY.out HB'.out) 0 (.map (some W.heap.size)) rfl
    have hk0 : ∀ k, k ≠ w.heap.size + 1 → ((w'.setCell ⟨w.heap.size + 1, 0, none⟩ (.map (some W.heap.size))).setCell ⟨w.heap.size + 1, 1, none⟩ (.slice A tok.length c)).heap[k]? = w'.heap[k]? := fun k hk => (heap_set _ hk).trans (heap_set _ hk)
    have hp1 := blk_put hp0 1 (.slice A tok.length c) rfl
    have hBf := (hB2.setCell (p := ⟨w.heap.size + 1, 0, none⟩) (Nat.le_succ _) (.map (some W.heap.size))).setCell (p := ⟨w.heap.size + 1, 1, none⟩) (Nat.le_succ _) (.slice A tok.length c)
    generalize (w'.setCell ⟨w.heap.size + 1, 0, none⟩ (.map (some W.heap.size))).setCell ⟨w.heap.size + 1, 1, none⟩ (.slice A tok.length c) = W2 at hk0 hp1 hBf ⊢
    have c0 : W2.cell? ⟨w.heap.size + 1, 0, none⟩ = some (.map (some W.heap.size)) := (blk_cell hp1 0).trans rfl
    have c1 : W2.cell? ⟨w.heap.size + 1, 1, none⟩ = some (.slice A tok.length c) := (blk_cell hp1 1).trans rfl
    have hsk : SoftKept w' W2 := fun k hk => hk0 k (fun e => by
      subst e
      obtain ⟨cs, t, hc, ht⟩ := hk
      rw [blk_below HY.out HB'.out] at hc
      injection hc with hc
      injection hc with _ e2 _
      subst e2
      revert ht; decide)
    have hlt : w.heap.size + 1 < W.heap.size := blk_lt HY.out
    refine bodyPost_ret (v := .agg #[.map (some W.heap.size), .slice A tok.length c]) (by simp [results, Try.results70, go_sem, c0, c1]) rfl ?_
    exact ⟨W.heap.size, rfl, by omega, (show MapIs w' W.heap.size H from HM'.out).step hsk (hk0 W.heap.size (by omega)), hBf⟩
end Go.Proofs.Ytliohoalackhiaa.T
