/- Save and Token of a store. -/
import Derived.Test.YtliohoalackhiaaHTKeepJ
import Derived.Deep.RegionWith
import Derived.Test.YtliohoalackhiaaHTx14
import Derived.Test.YtliohoalackhiaaHTgDecode
namespace Go.Proofs.Ytliohoalackhiaa.T
open Go.ChangeMaps hiding rd
open Go.RowKit Go.Maps Go.Proofs.YtliohoalackhiaaW.PrintWords Go.Proofs.YtliohoalackhiaaW.PrintLast Go.Proofs.YtliohoalackhiaaW.PrintMore Go.Proofs.Ytliohoalackhiaa.Num
set_option linter.unusedVariables false
set_option linter.unusedSimpArgs false
set_option maxRecDepth 100000 in
set_option maxHeartbeats 4000000 in
theorem keep_save_ok (w : World) (base g m1 m2 : Nat) (lo : Value) (A1 A2 : Hist × List Int) (steps : List Step) (h : Sto w base g m1 m2 lo A1 A2 steps) (hbase : base ≤ w.heap.size) (hn : A2.1.length < 1000000) (hs : steps.length < 1000000)
    (x : Int) (V1 : Option Addr) (c1 : Nat) (ss : List Int) (y : Int) (V3 : Option Addr) (c3 : Nat) (kn : List Int) (hr1 : Kd.C (Kd.int .i64) w V1 ss.length ss) (hc1 : ss.length ≤ c1) (hr3 : Kd.C (Kd.int .u8) w V3 kn.length kn) (hc3 : kn.length ≤ c3)
    (k : Nat) (E : List Int) (hE : token_Encode.f k x ss y kn = some (E, 0)) :
    Calls Try.prog 49 #[.pointer (some ⟨g, 0, none⟩), .agg #[.int .u64 x, .slice V1 ss.length c1, .int .u32 y, .slice V3 kn.length c3]] w fun e w' => e = .returned (.bool true) ∧ ∃ m2' lo', Sto w' base g m1 m2' lo' A1 (A2.1, E) (steps ++ [.save E]) ∧ Mv w w' (Own g m1 m2 lo) ∧ (∀ k, Own g m1 m2' lo' k → Own g m1 m2 lo k ∨ w.heap.size ≤ k) := by
  have HS := Aside0.mk h
  have HR1 := Aside0.mk hr1
  have HR3 := Aside0.mk hr3
  clear h hr1 hr3
  go_enter Try.func49, Try.ntmps49
  go_wp2_with fail
  have hb1 := below_alloc (Below.refl w.heap.size w) (.cells #[.int .u64 x, .slice V1 ss.length c1, .int .u32 y, .slice V3 kn.length c3] 66)
  generalize w.alloc (.cells #[.int .u64 x, .slice V1 ss.length c1, .int .u32 y, .slice V3 kn.length c3] 66) = wa at hb1 ⊢
  refine (token_Encode.calls k x V1 c1 ss y V3 c3 kn E 0 wa (Kd.C_below HR1.out hb1) hc1 (Kd.C_below HR3.out hb1) hc3 hE).mono ?_
  rintro e wb ⟨v0, rfl, hR, hb2⟩
  obtain ⟨A0, c0, e0⟩ := Kd.R_slice hR
  subst e0
  have HR := Aside0.mk hR
  have HB := Aside0.mk (below_step hb1 hb2)
  clear hR hb1 hb2
  go_wp2_with fail
  have hb3 := below_alloc (Below.refl wb.heap.size wb) (.cells #[.slice A0 E.length c0] 22)
  have hX := blk_new wb (.cells #[.slice A0 E.length c0] 22)
  have hBx := below_step HB.out hb3
  refine (keep_do _ base g m1 m2 lo A1 A2 steps (HS.out.below hBx) (Nat.le_trans hbase hBx.size) _ (.save E) ⟨_, _, rfl, hX, Rd.of_R (Kd.R_below HR.out hb3)⟩ hn hs).mono ?_
  rintro e we ⟨⟨rv, rfl⟩, m2', lo', hS, hV, hO⟩
  go_wp2
  go_ret
  exact ⟨rfl, m2', lo', hS, (Mv.of_below hBx _).trans hV (fun k q => .inl q), fun k q => (hO k q).imp_right (Nat.le_trans hBx.size)⟩
set_option maxRecDepth 100000 in
set_option maxHeartbeats 4000000 in
theorem keep_save_no (w : World) (g : Nat)
    (x : Int) (V1 : Option Addr) (c1 : Nat) (ss : List Int) (y : Int) (V3 : Option Addr) (c3 : Nat) (kn : List Int) (hr1 : Kd.C (Kd.int .i64) w V1 ss.length ss) (hc1 : ss.length ≤ c1) (hr3 : Kd.C (Kd.int .u8) w V3 kn.length kn) (hc3 : kn.length ≤ c3)
    (k : Nat) (E : List Int) (er : Int) (hE : token_Encode.f k x ss y kn = some (E, er)) (her : er ≠ 0) :
    Calls Try.prog 49 #[.pointer (some ⟨g, 0, none⟩), .agg #[.int .u64 x, .slice V1 ss.length c1, .int .u32 y, .slice V3 kn.length c3]] w fun e w' => e = .returned (.bool false) ∧ Below w.heap.size w w' := by
  have HR1 := Aside0.mk hr1
  have HR3 := Aside0.mk hr3
  clear hr1 hr3
  go_enter Try.func49, Try.ntmps49
  go_wp2_with fail
  have hb1 := below_alloc (Below.refl w.heap.size w) (.cells #[.int .u64 x, .slice V1 ss.length c1, .int .u32 y, .slice V3 kn.length c3] 66)
  generalize w.alloc (.cells #[.int .u64 x, .slice V1 ss.length c1, .int .u32 y, .slice V3 kn.length c3] 66) = wa at hb1 ⊢
  refine (token_Encode.calls k x V1 c1 ss y V3 c3 kn E er wa (Kd.C_below HR1.out hb1) hc1 (Kd.C_below HR3.out hb1) hc3 hE).mono ?_
  rintro e wb ⟨v0, rfl, hR, hb2⟩
  obtain ⟨A0, c0, e0⟩ := Kd.R_slice hR
  subst e0
  have HB := Aside0.mk (below_step hb1 hb2)
  clear hR hb1 hb2
  go_wp2_with fail
  go_ret
  exact ⟨rfl, below_alloc HB.out _⟩
set_option maxRecDepth 100000 in
set_option maxHeartbeats 4000000 in
theorem keep_token (w : World) (base g m1 m2 : Nat) (lo : Value) (A1 A2 : Hist × List Int) (steps : List Step) (h : Sto w base g m1 m2 lo A1 A2 steps)
    (k : Nat) (r1 : Int) (r2 : List Int) (r3 : Int) (r4 : List Int) (r5 : Int) (hD : token_Decode.f k A2.2 = some (r1, r2, r3, r4, r5)) :
    Calls Try.prog 50 #[.pointer (some ⟨g, 0, none⟩)] w fun e w' => ∃ v1 v3, e = .returned (.tuple #[.agg #[.int .u64 r1, v1, .int .u32 r3, v3], .bool (decide (r5 = 0))]) ∧ Kd.R (Kd.int .i64) 3 w' w.heap.size (fun _ => True) v1 r2 ∧ Kd.R (Kd.int .u8) 5 w' w.heap.size (fun _ => True) v3 r4 ∧ Below w.heap.size w w' := by
  obtain ⟨⟨t1, t2, hgc, q1, q2⟩, h1, h2, ne, bg, b1, b2, hl⟩ := h
  obtain ⟨A, c, e, hc, hC⟩ := q2.reads
  subst e
  have HC := Aside0.mk hC
  have d3 : w.cell? ⟨g, 3, none⟩ = some (.slice A A2.2.length c) := (blk_cell hgc 3).trans rfl
  have HG := Aside0.mk hgc
  clear hgc q1 q2 h1 h2 ne bg b1 b2 hl hC
  go_enter Try.func50, Try.ntmps50
  have hb1 := below_alloc (Below.refl w.heap.size w) (.cells #[.int .u64 0, .slice none 0 0, .int .u32 0, .slice none 0 0] 66)
  have d3' : (w.alloc (.cells #[.int .u64 0, .slice none 0 0, .int .u32 0, .slice none 0 0] 66)).cell? ⟨g, 3, none⟩ = some (.slice A A2.2.length c) := (hb1.cell (World.block_lt_of_cell? _ _ d3)).trans d3
  have HB := Aside0.mk hb1
  go_wp2_with fail
  refine (token_Decode.calls k A c A2.2 r1 r2 r3 r4 r5 _ (Kd.C_below HC.out HB.out) hc hD).mono ?_
  rintro e wb ⟨v1, v3, rfl, hR1, hR3, hb2⟩
  obtain ⟨B1, c1, e1⟩ := Kd.R_slice hR1
  obtain ⟨B3, c3, e3⟩ := Kd.R_slice hR3
  subst e1 e3
  have hT := blk_alloc (blk_below (blk_new w (.cells #[.int .u64 0, .slice none 0 0, .int .u32 0, .slice none 0 0] 66)) hb2) (.cells #[.int .u64 r1, .slice B1 r2.length c1, .int .u32 r3, .slice B3 r4.length c3] 66)
  have e0 : (wb.alloc (.cells #[.int .u64 r1, .slice B1 r2.length c1, .int .u32 r3, .slice B3 r4.length c3] 66)).cell? ⟨w.heap.size, 0, none⟩ = some (.int .u64 0) := (blk_cell hT 0).trans rfl
  have f0 : (wb.alloc (.cells #[.int .u64 r1, .slice B1 r2.length c1, .int .u32 r3, .slice B3 r4.length c3] 66)).frozen? ⟨w.heap.size, 0, none⟩ = false := blk_frozen hT 0
  have e1 : (wb.alloc (.cells #[.int .u64 r1, .slice B1 r2.length c1, .int .u32 r3, .slice B3 r4.length c3] 66)).cell? ⟨w.heap.size, 1, none⟩ = some (.slice none 0 0) := (blk_cell hT 1).trans rfl
  have f1 : (wb.alloc (.cells #[.int .u64 r1, .slice B1 r2.length c1, .int .u32 r3, .slice B3 r4.length c3] 66)).frozen? ⟨w.heap.size, 1, none⟩ = false := blk_frozen hT 1
  have e2 : (wb.alloc (.cells #[.int .u64 r1, .slice B1 r2.length c1, .int .u32 r3, .slice B3 r4.length c3] 66)).cell? ⟨w.heap.size, 2, none⟩ = some (.int .u32 0) := (blk_cell hT 2).trans rfl
  have f2 : (wb.alloc (.cells #[.int .u64 r1, .slice B1 r2.length c1, .int .u32 r3, .slice B3 r4.length c3] 66)).frozen? ⟨w.heap.size, 2, none⟩ = false := blk_frozen hT 2
  have e3 : (wb.alloc (.cells #[.int .u64 r1, .slice B1 r2.length c1, .int .u32 r3, .slice B3 r4.length c3] 66)).cell? ⟨w.heap.size, 3, none⟩ = some (.slice none 0 0) := (blk_cell hT 3).trans rfl
  have f3 : (wb.alloc (.cells #[.int .u64 r1, .slice B1 r2.length c1, .int .u32 r3, .slice B3 r4.length c3] 66)).frozen? ⟨w.heap.size, 3, none⟩ = false := blk_frozen hT 3
  have HT := Aside0.mk hT
  have HR1 := Aside0.mk (Kd.R_below hR1 (below_alloc (Below.refl wb.heap.size wb) (.cells #[.int .u64 r1, .slice B1 r2.length c1, .int .u32 r3, .slice B3 r4.length c3] 66)))
  have HR3 := Aside0.mk (Kd.R_below hR3 (below_alloc (Below.refl wb.heap.size wb) (.cells #[.int .u64 r1, .slice B1 r2.length c1, .int .u32 r3, .slice B3 r4.length c3] 66)))
  have HB2 := Aside0.mk (below_alloc (below_step HB.out hb2) (.cells #[.int .u64 r1, .slice B1 r2.length c1, .int .u32 r3, .slice B3 r4.length c3] 66))
  have hsz := hb1.size
  have hsz2 : w.heap.size < (w.alloc (.cells #[.int .u64 0, .slice none 0 0, .int .u32 0, .slice none 0 0] 66)).heap.size := by rw [World.size_alloc]; omega
  clear hR1 hR3 hT hb2 hb1 d3 d3'
  go_wp2_with fail
  have hT := HT.out
  have p0 := blk_put hT 0 (.int .u64 r1) rfl
  have q0 := Kd.R_set HR1.out hT (by decide) 0 (.int .u64 r1)
  have u0 := Kd.R_set HR3.out hT (by decide) 0 (.int .u64 r1)
  have p1 := blk_put p0 1 (.slice B1 r2.length c1) rfl
  have q1 := Kd.R_set q0 p0 (by decide) 1 (.slice B1 r2.length c1)
  have u1 := Kd.R_set u0 p0 (by decide) 1 (.slice B1 r2.length c1)
  have p2 := blk_put p1 2 (.int .u32 r3) rfl
  have q2 := Kd.R_set q1 p1 (by decide) 2 (.int .u32 r3)
  have u2 := Kd.R_set u1 p1 (by decide) 2 (.int .u32 r3)
  have p3 := blk_put p2 3 (.slice B3 r4.length c3) rfl
  have q3 := Kd.R_set q2 p2 (by decide) 3 (.slice B3 r4.length c3)
  have u3 := Kd.R_set u2 p2 (by decide) 3 (.slice B3 r4.length c3)
  have hBf := ((((HB2.out.setCell (p := ⟨w.heap.size, 0, none⟩) (Nat.le_refl _) (.int .u64 r1)).setCell (p := ⟨w.heap.size, 1, none⟩) (Nat.le_refl _) (.slice B1 r2.length c1)).setCell (p := ⟨w.heap.size, 2, none⟩) (Nat.le_refl _) (.int .u32 r3)).setCell (p := ⟨w.heap.size, 3, none⟩) (Nat.le_refl _) (.slice B3 r4.length c3))
  generalize (((((wb.alloc (.cells #[.int .u64 r1, .slice B1 r2.length c1, .int .u32 r3, .slice B3 r4.length c3] 66)).setCell ⟨w.heap.size, 0, none⟩ (.int .u64 r1)).setCell ⟨w.heap.size, 1, none⟩ (.slice B1 r2.length c1)).setCell ⟨w.heap.size, 2, none⟩ (.int .u32 r3)).setCell ⟨w.heap.size, 3, none⟩ (.slice B3 r4.length c3)) = W4 at p3 q3 u3 hBf ⊢
  have c0_ : W4.cell? ⟨w.heap.size, 0, none⟩ = some (.int .u64 r1) := (blk_cell p3 0).trans rfl
  have c1_ : W4.cell? ⟨w.heap.size, 1, none⟩ = some (.slice B1 r2.length c1) := (blk_cell p3 1).trans rfl
  have c2_ : W4.cell? ⟨w.heap.size, 2, none⟩ = some (.int .u32 r3) := (blk_cell p3 2).trans rfl
  have c3_ : W4.cell? ⟨w.heap.size, 3, none⟩ = some (.slice B3 r4.length c3) := (blk_cell p3 3).trans rfl
  refine bodyPost_ret (v := .tuple #[.agg #[.int .u64 r1, .slice B1 r2.length c1, .int .u32 r3, .slice B3 r4.length c3], .bool (r5 == 0)]) (by simp [results, Try.results50, go_sem, c0_, c1_, c2_, c3_]) rfl ?_
  exact ⟨_, _, by rfl, Kd.R_lower q3 hsz, Kd.R_lower u3 hsz, hBf⟩
end Go.Proofs.Ytliohoalackhiaa.T
