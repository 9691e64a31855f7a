/- Put and Clear of a store. -/
import Derived.Test.YtliohoalackhiaaHTKeepD
namespace Go.Proofs.Ytliohoalackhiaa.T
open Go.ChangeMaps hiding rd
open Go.RowKit Go.Maps Go.Proofs.YtliohoalackhiaaW.PrintWords Go.Proofs.YtliohoalackhiaaW.PrintLast Go.Proofs.YtliohoalackhiaaW.PrintMore
set_option linter.unusedVariables false
set_option linter.unusedSimpArgs false
set_option maxRecDepth 100000 in
set_option maxHeartbeats 4000000 in
theorem keep_clear (w : World) (base g m1 m2 : Nat) (lo : Value) (A1 A2 : Hist × List Int) (steps : List Step) (h : Sto w base g m1 m2 lo A1 A2 steps) (hbase : base ≤ w.heap.size) (hn : A2.1.length < 1000000) (hs : steps.length < 1000000) :
    Calls Try.prog 23 #[.pointer (some ⟨g, 0, none⟩)] w fun e w' => (∃ v, e = .returned v) ∧ ∃ m2' lo', Sto w' base g m1 m2' lo' A1 ([], []) (steps ++ [.clear]) ∧ Mv w w' (Own g m1 m2 lo) ∧ (∀ k, Own g m1 m2' lo' k → Own g m1 m2 lo k ∨ w.heap.size ≤ k) := by
  have HC := Aside0.mk (keep_do w base g m1 m2 lo A1 A2 steps h hbase _ .clear rfl hn hs)
  clear h
  go_enter Try.func23, Try.ntmps23
  go_wp2_with fail
  refine HC.out.mono ?_
  rintro e w1 ⟨⟨rv, rfl⟩, hw⟩
  go_wp2
  go_end0
  exact ⟨⟨_, rfl⟩, hw⟩
set_option maxRecDepth 100000 in
set_option maxHeartbeats 4000000 in
theorem keep_put (w : World) (base g m1 m2 : Nat) (lo : Value) (A1 A2 : Hist × List Int) (steps : List Step) (h : Sto w base g m1 m2 lo A1 A2 steps) (hbase : base ≤ w.heap.size) (hn : A2.1.length < 1000000) (hs : steps.length < 1000000)
    (i : Int) (A : Option Addr) (c : Nat) (l : List Int) (hr : Kd.C (Kd.int .u8) w A l.length l) (hc : l.length ≤ c) (hi : 0 ≤ i ∧ i < 512) (hl : l.length ≤ 64) :
    Calls Try.prog 16 #[.pointer (some ⟨g, 0, none⟩), .int .i64 i, .slice A l.length c] w fun e w' => e = .returned (.bool true) ∧ ∃ m2' lo', Sto w' base g m1 m2' lo' A1 ((i, l) :: A2.1, A2.2) (steps ++ [.put i l]) ∧ Mv w w' (Own g m1 m2 lo) ∧ (∀ k, Own g m1 m2' lo' k → Own g m1 m2 lo k ∨ w.heap.size ≤ k) := by
  have HS := Aside0.mk h
  have HR := Aside0.mk hr
  have hi1 : ¬ i < 0 := by omega
  have hi2 : ¬ i ≥ 512 := by omega
  have hl2 : ¬ (l.length : Int) > 64 := by omega
  clear h hr
  go_enter Try.func16, Try.ntmps16
  go_wp2_with fail
  have hI := blk_new w (.cells #[.int .i64 i] 3)
  have hb1 := below_alloc (Below.refl w.heap.size w) (.cells #[.int .i64 i] 3)
  have hsz := World.size_alloc w (.cells #[.int .i64 i] 3)
  generalize w.alloc (.cells #[.int .i64 i] 3) = wa at hI hb1 hsz ⊢
  have hX := blk_new wa (.cells #[.slice A l.length c] 22)
  have hb2 := below_alloc (Below.refl wa.heap.size wa) (.cells #[.slice A l.length c] 22)
  rw [hsz] at hX
  generalize wa.alloc (.cells #[.slice A l.length c] 22) = wb at hX hb2 ⊢
  have HI := Aside0.mk (blk_below hI hb2)
  have HB := Aside0.mk (below_step hb1 hb2)
  have HX := Aside0.mk hX
  clear hI hb1 hsz hX hb2
  refine (bytes_Clone.calls A c l l wb (Kd.C_below HR.out HB.out) hc (by unfold bytes_Clone.f; rw [if_pos (by omega)])).mono ?_
  rintro e wc ⟨vc, rfl, hR, hb3⟩
  obtain ⟨Ac, cc, ec⟩ := Kd.R_slice hR
  subst ec
  have HRC := Aside0.mk hR
  have n0_ := Aside0.mk (blk_below HI.out hb3)
  have n1_ := Aside0.mk (blk_below HX.out hb3)
  have n2_ := Aside0.mk (below_step HB.out hb3)
  clear HI HX HB hR hb3
  have HI := n0_
  have HX := n1_
  have HB := n2_
  clear n0_ n1_ n2_
  have d0 : wc.cell? ⟨w.heap.size + 1, 0, none⟩ = some (.slice A l.length c) := (blk_cell HX.out 0).trans rfl
  have f0 : wc.frozen? ⟨w.heap.size + 1, 0, none⟩ = false := blk_frozen HX.out 0
  go_wp2_with fail
  have hBd := HB.out.setCell (p := ⟨w.heap.size + 1, 0, none⟩) (Nat.le_succ _) (.slice Ac l.length cc)
  have hId := (heap_set (w := wc) (g := w.heap.size + 1) (j := 0) (k := w.heap.size) (.slice Ac l.length cc) (by omega)).trans HI.out
  have hXd := blk_put HX.out 0 (.slice Ac l.length cc) rfl
  have hRd := Kd.R_set HRC.out HX.out (by decide) 0 (.slice Ac l.length cc)
  generalize wc.setCell ⟨w.heap.size + 1, 0, none⟩ (.slice Ac l.length cc) = wd at hBd hId hXd hRd ⊢
  refine (keep_do wd base g m1 m2 lo A1 A2 steps (HS.out.below hBd) (Nat.le_trans hbase hBd.size) _ (.put i l) ⟨_, _, _, rfl, hId, hXd, Rd.of_R hRd, hi⟩ hn hs).mono ?_
  rintro e we ⟨⟨rv, rfl⟩, m2', lo', hS, hV, hO⟩
  have HSE := Aside0.mk hS
  have HVE := Aside0.mk ((Mv.of_below hBd (Own g m1 m2 lo)).trans hV (fun k hk => .inl hk))
  have HOE := Aside0.mk (fun k hk => (hO k hk).elim (fun q => (.inl q : Own g m1 m2 lo k ∨ w.heap.size ≤ k)) (fun q => .inr (Nat.le_trans hBd.size q)))
  clear hS hV hO
  go_wp2
  go_ret
  exact ⟨rfl, m2', lo', HSE.out, HVE.out, HOE.out⟩
end Go.Proofs.Ytliohoalackhiaa.T
