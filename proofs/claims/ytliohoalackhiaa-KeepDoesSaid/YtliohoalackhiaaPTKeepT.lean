/- The document's store: Do of a token. -/
import Derived.Test.YtliohoalackhiaaPTKeepS
namespace Go.Proofs.Ytliohoalackhiaa.T
open Go.ChangeMaps hiding rd
open Go.RowKit Go.Maps Go.Proofs.YtliohoalackhiaaW.PrintWords Go.Proofs.YtliohoalackhiaaW.PrintLast Go.Proofs.YtliohoalackhiaaW.PrintMore Go.Proofs.Ytliohoalackhiaa.Num Go.Proofs.Ytliohoalackhiaa.CrcN
set_option linter.unusedVariables false
set_option linter.unusedSimpArgs false
set_option maxRecDepth 100000 in
set_option maxHeartbeats 8000000 in
theorem do_save (w : World) (b : Nat) (hb : b ≤ w.heap.size) (vs : List Value) (A1 A2 : Hist × List Int) (steps : List Step) (h : RT b w vs A1 A2 steps) (hst : steps.length < 1599400000000)
    (xt : Int) (W1 : Option Addr) (d1 : Nat) (ss : List Int) (yt : Int) (W3 : Option Addr) (d3 : Nat) (kn : List Int) (E : List Int) (g1 : TokR b w W1 d1 ss W3 d3 kn) (g2 : TokIs true xt ss yt kn E) (g3 : scullerref14_Right.f (8 * kn.length + 31) xt ss yt kn = some true) :
    Calls Try.prog 118 #[.agg vs.toArray, .agg #[.int .i64 2, .int .i64 0, .slice none 0 0, .int .u64 xt, .slice W1 ss.length d1, .int .u32 yt, .slice W3 kn.length d3]] w fun e w' => ∃ vs' : List Value, e = .returned (.tuple #[.agg vs'.toArray, .bool true]) ∧ RT b w' vs' A1 (app (.save E) A2) (steps ++ [.save E]) ∧ Below w.heap.size w w' := by
  obtain ⟨Ah, ch, Ac, cc, isb, x, V1, n1, c1, y, V3, n3, c3, Bh, ch2, Bc, cc2, isb2, x2, V12, n12, c12, y2, V32, n32, c32, L, n, cl, rows, rfl, h1, h2, h3, h4, h5, h6⟩ := h.shape
  subst h3
  have hrl : rows.length < 1599400000000 := by rw [h6.length]; exact hst
  have hbz : Below w.heap.size w (((w.alloc (.cells #[.slice Ah 512 ch, .slice Ac 512 cc, .bool isb, .int .u64 x, .slice V1 n1 c1, .int .u32 y, .slice V3 n3 c3, .slice Bh 512 ch2, .slice Bc 512 cc2, .bool isb2, .int .u64 x2, .slice V12 n12 c12, .int .u32 y2, .slice V32 n32 c32, .slice L rows.length cl] 100)).alloc (.cells #[.int .i64 2, .int .i64 0, .slice none 0 0, .int .u64 xt, .slice W1 ss.length d1, .int .u32 yt, .slice W3 kn.length d3] 152)).alloc (.cells #[.slice none 0 0, .slice none 0 0, .bool false, .int .u64 0, .slice none 0 0, .int .u32 0, .slice none 0 0, .slice none 0 0, .slice none 0 0, .bool false, .int .u64 0, .slice none 0 0, .int .u32 0, .slice none 0 0, .slice none 0 0] 100)) := below_alloc (below_alloc (below_alloc (Below.refl w.heap.size w) (.cells #[.slice Ah 512 ch, .slice Ac 512 cc, .bool isb, .int .u64 x, .slice V1 n1 c1, .int .u32 y, .slice V3 n3 c3, .slice Bh 512 ch2, .slice Bc 512 cc2, .bool isb2, .int .u64 x2, .slice V12 n12 c12, .int .u32 y2, .slice V32 n32 c32, .slice L rows.length cl] 100)) (.cells #[.int .i64 2, .int .i64 0, .slice none 0 0, .int .u64 xt, .slice W1 ss.length d1, .int .u32 yt, .slice W3 kn.length d3] 152)) (.cells #[.slice none 0 0, .slice none 0 0, .bool false, .int .u64 0, .slice none 0 0, .int .u32 0, .slice none 0 0, .slice none 0 0, .slice none 0 0, .bool false, .int .u64 0, .slice none 0 0, .int .u32 0, .slice none 0 0, .slice none 0 0] 100)
  have hT := blk_alloc (blk_alloc (blk_new w (.cells #[.slice Ah 512 ch, .slice Ac 512 cc, .bool isb, .int .u64 x, .slice V1 n1 c1, .int .u32 y, .slice V3 n3 c3, .slice Bh 512 ch2, .slice Bc 512 cc2, .bool isb2, .int .u64 x2, .slice V12 n12 c12, .int .u32 y2, .slice V32 n32 c32, .slice L rows.length cl] 100)) (.cells #[.int .i64 2, .int .i64 0, .slice none 0 0, .int .u64 xt, .slice W1 ss.length d1, .int .u32 yt, .slice W3 kn.length d3] 152)) (.cells #[.slice none 0 0, .slice none 0 0, .bool false, .int .u64 0, .slice none 0 0, .int .u32 0, .slice none 0 0, .slice none 0 0, .slice none 0 0, .bool false, .int .u64 0, .slice none 0 0, .int .u32 0, .slice none 0 0, .slice none 0 0] 100)
  have hX := blk_alloc (blk_new (w.alloc (.cells #[.slice Ah 512 ch, .slice Ac 512 cc, .bool isb, .int .u64 x, .slice V1 n1 c1, .int .u32 y, .slice V3 n3 c3, .slice Bh 512 ch2, .slice Bc 512 cc2, .bool isb2, .int .u64 x2, .slice V12 n12 c12, .int .u32 y2, .slice V32 n32 c32, .slice L rows.length cl] 100)) (.cells #[.int .i64 2, .int .i64 0, .slice none 0 0, .int .u64 xt, .slice W1 ss.length d1, .int .u32 yt, .slice W3 kn.length d3] 152)) (.cells #[.slice none 0 0, .slice none 0 0, .bool false, .int .u64 0, .slice none 0 0, .int .u32 0, .slice none 0 0, .slice none 0 0, .slice none 0 0, .bool false, .int .u64 0, .slice none 0 0, .int .u32 0, .slice none 0 0, .slice none 0 0] 100)
  have hR := blk_new ((w.alloc (.cells #[.slice Ah 512 ch, .slice Ac 512 cc, .bool isb, .int .u64 x, .slice V1 n1 c1, .int .u32 y, .slice V3 n3 c3, .slice Bh 512 ch2, .slice Bc 512 cc2, .bool isb2, .int .u64 x2, .slice V12 n12 c12, .int .u32 y2, .slice V32 n32 c32, .slice L rows.length cl] 100)).alloc (.cells #[.int .i64 2, .int .i64 0, .slice none 0 0, .int .u64 xt, .slice W1 ss.length d1, .int .u32 yt, .slice W3 kn.length d3] 152)) (.cells #[.slice none 0 0, .slice none 0 0, .bool false, .int .u64 0, .slice none 0 0, .int .u32 0, .slice none 0 0, .slice none 0 0, .slice none 0 0, .bool false, .int .u64 0, .slice none 0 0, .int .u32 0, .slice none 0 0, .slice none 0 0] 100)
  rw [World.size_alloc] at hX
  rw [World.size_alloc, World.size_alloc] at hR
  have H1 := Aside0.mk h1
  have H2 := Aside0.mk h2
  have H5 := Aside0.mk h5
  have H6 := Aside0.mk h6
  have H4 := Aside0.mk h4
  clear h h1 h2 h4 h5 h6
  have HQ := Aside0.mk (scullerref14_Right.calls (8 * kn.length + 31) xt W1 d1 ss yt W3 d3 kn true (((w.alloc (.cells #[.slice Ah 512 ch, .slice Ac 512 cc, .bool isb, .int .u64 x, .slice V1 n1 c1, .int .u32 y, .slice V3 n3 c3, .slice Bh 512 ch2, .slice Bc 512 cc2, .bool isb2, .int .u64 x2, .slice V12 n12 c12, .int .u32 y2, .slice V32 n32 c32, .slice L rows.length cl] 100)).alloc (.cells #[.int .i64 2, .int .i64 0, .slice none 0 0, .int .u64 xt, .slice W1 ss.length d1, .int .u32 yt, .slice W3 kn.length d3] 152)).alloc (.cells #[.slice none 0 0, .slice none 0 0, .bool false, .int .u64 0, .slice none 0 0, .int .u32 0, .slice none 0 0, .slice none 0 0, .slice none 0 0, .bool false, .int .u64 0, .slice none 0 0, .int .u32 0, .slice none 0 0, .slice none 0 0] 100)) ((g1.2.2.1).step (Leaves.of_below hbz hb)).now g1.1 ((g1.2.2.2).step (Leaves.of_below hbz hb)).now g1.2.1 g3)
  generalize hwz : (((w.alloc (.cells #[.slice Ah 512 ch, .slice Ac 512 cc, .bool isb, .int .u64 x, .slice V1 n1 c1, .int .u32 y, .slice V3 n3 c3, .slice Bh 512 ch2, .slice Bc 512 cc2, .bool isb2, .int .u64 x2, .slice V12 n12 c12, .int .u32 y2, .slice V32 n32 c32, .slice L rows.length cl] 100)).alloc (.cells #[.int .i64 2, .int .i64 0, .slice none 0 0, .int .u64 xt, .slice W1 ss.length d1, .int .u32 yt, .slice W3 kn.length d3] 152)).alloc (.cells #[.slice none 0 0, .slice none 0 0, .bool false, .int .u64 0, .slice none 0 0, .int .u32 0, .slice none 0 0, .slice none 0 0, .slice none 0 0, .bool false, .int .u64 0, .slice none 0 0, .int .u32 0, .slice none 0 0, .slice none 0 0] 100)) = wz at hbz hT hX hR HQ
  have HWZ := Aside0.mk hwz
  clear hwz
  go_enter Try.func118, Try.ntmps118
  go_wp2_with fail
  rw [HWZ.out]
  refine HQ.out.mono ?_
  rintro e wy ⟨rfl, hbq⟩
  have hT := blk_below hT hbq
  have hX := blk_below hX hbq
  have hR := blk_below hR hbq
  have hbz := below_step hbz hbq
  clear hbq HWZ HQ
  have t14 : wy.cell? ⟨w.heap.size, 14, none⟩ = some (.slice L rows.length cl) := (blk_cell hT 14).trans rfl
  obtain ⟨yx0, yx1, yx2, yx3, yx4, yx5, yx6⟩ := cells7 hX
  have HT := Aside0.mk hT
  have HX := Aside0.mk hX
  have HR := Aside0.mk hR
  have HBZ := Aside0.mk hbz
  have H3 : Aside0 (w.heap.size + 1 + 1 + 1 ≤ (wy).heap.size) := ⟨by have := blk_lt hR; omega⟩
  have HB3 := Aside0.mk (Below.refl (w.heap.size + 1 + 1 + 1) (wy))
  clear hT hX hR hbz
  go_wp2_with (at_builtin; first | (refine raw_anew (w.heap.size + 1 + 1 + 1) rfl (.tmp 38) (.tmp 40) 98 152 (.agg #[.int .i64 0, .int .i64 0, .slice none 0 0, .int .u64 0, .slice none 0 0, .int .u32 0, .slice none 0 0]) 104 rfl Try.underlying98 infoStepR rfl (by decide) (by omega) rows L cl rfl rfl ((H5.out.step (Leaves.of_below HBZ.out hb)).now) HB3.out H3.out (by omega) ?_; intro v1 wa ho hb1 hg1; have ho : Kd.R (Kd.raw 7) 152 wa (w.heap.size + 1 + 1 + 1) (fun _ => True) v1 rows := ho; obtain ⟨La, ca, e1⟩ := Kd.R_slice ho; subst e1; have HO1 := Aside0.mk ho; have HB1 := Aside0.mk hb1; have HT1 := Aside0.mk (blk_grown HT.out hg1 (by simp [Value.ownBlock])); have HX1 := Aside0.mk (blk_grown HX.out hg1 (by simp [Value.ownBlock])); have HR1 := Aside0.mk (blk_grown HR.out hg1 (by simp [Value.ownBlock])); have xa0 : (wa).cell? ⟨w.heap.size + 1, 0, none⟩ = some (.int .i64 2) := (blk_cell HX1.out 0).trans rfl; have xa1 : (wa).cell? ⟨w.heap.size + 1, 1, none⟩ = some (.int .i64 0) := (blk_cell HX1.out 1).trans rfl; have xa2 : (wa).cell? ⟨w.heap.size + 1, 2, none⟩ = some (.slice none 0 0) := (blk_cell HX1.out 2).trans rfl; have xa3 : (wa).cell? ⟨w.heap.size + 1, 3, none⟩ = some (.int .u64 xt) := (blk_cell HX1.out 3).trans rfl; have xa4 : (wa).cell? ⟨w.heap.size + 1, 4, none⟩ = some (.slice W1 ss.length d1) := (blk_cell HX1.out 4).trans rfl; have xa5 : (wa).cell? ⟨w.heap.size + 1, 5, none⟩ = some (.int .u32 yt) := (blk_cell HX1.out 5).trans rfl; have xa6 : (wa).cell? ⟨w.heap.size + 1, 6, none⟩ = some (.slice W3 kn.length d3) := (blk_cell HX1.out 6).trans rfl; clear ho hb1 hg1) | (refine raw_more (w.heap.size + 1 + 1 + 1) rfl (.tmp 42) (.tmp 44) 98 152 (.agg #[.int .i64 0, .int .i64 0, .slice none 0 0, .int .u64 0, .slice none 0 0, .int .u32 0, .slice none 0 0]) 104 rfl Try.underlying98 infoStepR rfl (by decide) (by omega) (.slice La rows.length ca) rows [.int .i64 2, .int .i64 0, .slice none 0 0, .int .u64 xt, .slice W1 ss.length d1, .int .u32 yt, .slice W3 kn.length d3] rfl rfl ⟨rfl, by simp [Value.oneCell']⟩ HO1.out HB1.out (Nat.le_trans H3.out HB1.out.size) (by omega) ?_; intro v2 wb ho hb2 hg2; obtain ⟨Lb, cb, e2⟩ := Kd.R_slice ho; generalize hnb : List.length _ = nb at e2; subst e2; have HO2 := Aside0.mk ho; have HB2 := Aside0.mk hb2; have HNB := Aside0.mk hnb; have HT2 := Aside0.mk (blk_grown HT1.out hg2 (Kd.R_ne HO1.out HT1.out (by decide))); have HX2 := Aside0.mk (blk_grown HX1.out hg2 (fun e => by have := Kd.R_base HO1.out _ e.symm; omega)); have HR2 := Aside0.mk (blk_grown HR1.out hg2 (Kd.R_ne HO1.out HR1.out (by decide))); clear ho hb2 hg2 hnb; have nXT : w.heap.size + 1 ≠ w.heap.size := (by omega); have nRT : w.heap.size + 1 + 1 ≠ w.heap.size := (by omega); have tb : wb.cell? ⟨w.heap.size, 14, none⟩ = some (.slice L rows.length cl) := (blk_cell HT2.out 14).trans rfl; have tbf : wb.frozen? ⟨w.heap.size, 14, none⟩ = false := blk_frozen HT2.out 14; have hTc := blk_put HT2.out 14 (.slice Lb nb cb) rfl; have hXc := blk_far HX2.out (p := ⟨w.heap.size, 14, none⟩) nXT (.slice Lb nb cb); have hRc := blk_far HR2.out (p := ⟨w.heap.size, 14, none⟩) nRT (.slice Lb nb cb); have tc0 : (wb.setCell ⟨w.heap.size, 14, none⟩ (.slice Lb nb cb)).cell? ⟨w.heap.size, 7, none⟩ = some (.slice Bh 512 ch2) := (blk_cell hTc 7).trans rfl; have tc1 : (wb.setCell ⟨w.heap.size, 14, none⟩ (.slice Lb nb cb)).cell? ⟨w.heap.size, 8, none⟩ = some (.slice Bc 512 cc2) := (blk_cell hTc 8).trans rfl; have tc2 : (wb.setCell ⟨w.heap.size, 14, none⟩ (.slice Lb nb cb)).cell? ⟨w.heap.size, 9, none⟩ = some (.bool isb2) := (blk_cell hTc 9).trans rfl; have tc3 : (wb.setCell ⟨w.heap.size, 14, none⟩ (.slice Lb nb cb)).cell? ⟨w.heap.size, 10, none⟩ = some (.int .u64 x2) := (blk_cell hTc 10).trans rfl; have tc4 : (wb.setCell ⟨w.heap.size, 14, none⟩ (.slice Lb nb cb)).cell? ⟨w.heap.size, 11, none⟩ = some (.slice V12 n12 c12) := (blk_cell hTc 11).trans rfl; have tc5 : (wb.setCell ⟨w.heap.size, 14, none⟩ (.slice Lb nb cb)).cell? ⟨w.heap.size, 12, none⟩ = some (.int .u32 y2) := (blk_cell hTc 12).trans rfl; have tc6 : (wb.setCell ⟨w.heap.size, 14, none⟩ (.slice Lb nb cb)).cell? ⟨w.heap.size, 13, none⟩ = some (.slice V32 n32 c32) := (blk_cell hTc 13).trans rfl; have xc0 : (wb.setCell ⟨w.heap.size, 14, none⟩ (.slice Lb nb cb)).cell? ⟨w.heap.size + 1, 0, none⟩ = some (.int .i64 2) := (blk_cell hXc 0).trans rfl; have xc1 : (wb.setCell ⟨w.heap.size, 14, none⟩ (.slice Lb nb cb)).cell? ⟨w.heap.size + 1, 1, none⟩ = some (.int .i64 0) := (blk_cell hXc 1).trans rfl; have xc2 : (wb.setCell ⟨w.heap.size, 14, none⟩ (.slice Lb nb cb)).cell? ⟨w.heap.size + 1, 2, none⟩ = some (.slice none 0 0) := (blk_cell hXc 2).trans rfl; have xc3 : (wb.setCell ⟨w.heap.size, 14, none⟩ (.slice Lb nb cb)).cell? ⟨w.heap.size + 1, 3, none⟩ = some (.int .u64 xt) := (blk_cell hXc 3).trans rfl; have xc4 : (wb.setCell ⟨w.heap.size, 14, none⟩ (.slice Lb nb cb)).cell? ⟨w.heap.size + 1, 4, none⟩ = some (.slice W1 ss.length d1) := (blk_cell hXc 4).trans rfl; have xc5 : (wb.setCell ⟨w.heap.size, 14, none⟩ (.slice Lb nb cb)).cell? ⟨w.heap.size + 1, 5, none⟩ = some (.int .u32 yt) := (blk_cell hXc 5).trans rfl; have xc6 : (wb.setCell ⟨w.heap.size, 14, none⟩ (.slice Lb nb cb)).cell? ⟨w.heap.size + 1, 6, none⟩ = some (.slice W3 kn.length d3) := (blk_cell hXc 6).trans rfl; have HTC := Aside0.mk hTc; have HXC := Aside0.mk hXc; have HRC := Aside0.mk hRc; clear hTc hXc hRc))
  have hbB := HBZ.out.trans (below_lower HB2.out (Nat.le_add_right _ 3))
  have hbC : Below w.heap.size w (wb.setCell ⟨w.heap.size, 14, none⟩ (.slice Lb nb cb)) := hbB.setCell (p := ⟨w.heap.size, 14, none⟩) (Nat.le_refl _) (.slice Lb nb cb)
  have hLB := Leaves.of_below hbB hb
  have hLS : Leaves b wb (wb.setCell ⟨w.heap.size, 14, none⟩ (.slice Lb nb cb)) := leaves_set (.slice Lb nb cb) HT2.out (.inl rfl) hb
  have hLC := hLB.trans hLS
  have hf := (firm_R (b := b) HO2.out (by simp [Kd.raw])).step hLS
  have hcap := (Kd.R_reads' HO2.out).2.1
  have hST := H2.out.step hLC
  have hSP : RStep b (wb.setCell ⟨w.heap.size, 14, none⟩ (.slice Lb nb cb)) [.int .i64 2, .int .i64 0, .slice none 0 0, .int .u64 xt, .slice W1 ss.length d1, .int .u32 yt, .slice W3 kn.length d3] (.save E) := ⟨xt, W1, d1, ss, yt, W3, d3, kn, rfl, g1.step hLC, g2⟩
  clear tb tbf tc0 xc0 tc1 xc1 tc2 xc2 tc3 xc3 tc4 xc4 tc5 xc5 tc6 xc6
  generalize (wb.setCell ⟨w.heap.size, 14, none⟩ (.slice Lb nb cb)) = wc at hbC hLC hLS hST hSP hf HTC HXC HRC ⊢
  refine (ref_done wc b (Nat.le_trans hb hbC.size) [.slice Bh 512 ch2, .slice Bc 512 cc2, .bool isb2, .int .u64 x2, .slice V12 n12 c12, .int .u32 y2, .slice V32 n32 c32] A2 hST [.int .i64 2, .int .i64 0, .slice none 0 0, .int .u64 xt, .slice W1 ss.length d1, .int .u32 yt, .slice W3 kn.length d3] (.save E) hSP).mono ?_
  rintro e w2 ⟨vs', rfl, hst', hb2⟩
  obtain ⟨Eh, eh, Ec, ec, isb3, x3, U1, m1, f1, y3, U3, m3, f3, rfl⟩ := hst'.shape
  have HST := Aside0.mk hst'
  have HL2 := Aside0.mk (hLC.trans (Leaves.of_below hb2 (Nat.le_trans hb hbC.size)))
  have HF2 := Aside0.mk (hf.step (Leaves.of_below hb2 (Nat.le_trans hb hbC.size)))
  have HBL2 := Aside0.mk (below_step hbC hb2)
  have hT2 := blk_below HTC.out hb2
  have hR2 := blk_below HRC.out hb2
  clear hst' hLB hLS hLC hf hST hSP hb2 hbB hbC
  have hm := setAll_mid w.heap.size 100 [.slice Lb nb cb] [.slice Eh 512 eh, .slice Ec 512 ec, .bool isb3, .int .u64 x3, .slice U1 m1 f1, .int .u32 y3, .slice U3 m3 f3] 7 w2 [.slice Ah 512 ch, .slice Ac 512 cc, .bool isb, .int .u64 x, .slice V1 n1 c1, .int .u32 y, .slice V3 n3 c3] [.slice Bh 512 ch2, .slice Bc 512 cc2, .bool isb2, .int .u64 x2, .slice V12 n12 c12, .int .u32 y2, .slice V32 n32 c32] rfl rfl hT2
  have hTd : (put7b w2 (w.heap.size) (.slice Eh 512 eh) (.slice Ec 512 ec) (.bool isb3) (.int .u64 x3) (.slice U1 m1 f1) (.int .u32 y3) (.slice U3 m3 f3)).heap[w.heap.size]? = some (.cells #[.slice Ah 512 ch, .slice Ac 512 cc, .bool isb, .int .u64 x, .slice V1 n1 c1, .int .u32 y, .slice V3 n3 c3, .slice Eh 512 eh, .slice Ec 512 ec, .bool isb3, .int .u64 x3, .slice U1 m1 f1, .int .u32 y3, .slice U3 m3 f3, .slice Lb nb cb] 100) := hm.1
  have hRd : (put7b w2 (w.heap.size) (.slice Eh 512 eh) (.slice Ec 512 ec) (.bool isb3) (.int .u64 x3) (.slice U1 m1 f1) (.int .u32 y3) (.slice U3 m3 f3)).heap[w.heap.size + 1 + 1]? = some (.cells #[.slice none 0 0, .slice none 0 0, .bool false, .int .u64 0, .slice none 0 0, .int .u32 0, .slice none 0 0, .slice none 0 0, .slice none 0 0, .bool false, .int .u64 0, .slice none 0 0, .int .u32 0, .slice none 0 0, .slice none 0 0] 100) := (hm.2.1 _ nRT).trans hR2
  have HLD : Aside0 (Leaves b w2 (put7b w2 (w.heap.size) (.slice Eh 512 eh) (.slice Ec 512 ec) (.bool isb3) (.int .u64 x3) (.slice U1 m1 f1) (.int .u32 y3) (.slice U3 m3 f3))) := ⟨leaves_all hT2 (.inl rfl) hb hm.2.1⟩
  have HBD : Aside0 (Below w.heap.size w (put7b w2 (w.heap.size) (.slice Eh 512 eh) (.slice Ec 512 ec) (.bool isb3) (.int .u64 x3) (.slice U1 m1 f1) (.int .u32 y3) (.slice U3 m3 f3))) := ⟨hm.2.2 _ _ (Nat.le_refl _) HBL2.out⟩
  obtain ⟨-, -, -, -, -, -, -, u0_, u1_, u2_, u3_, u4_, u5_, u6_, -⟩ := cells15 hT2
  obtain ⟨-, -, -, -, -, -, -, uf0_, uf1_, uf2_, uf3_, uf4_, uf5_, uf6_, -⟩ := frozen15 hT2
  obtain ⟨v0_, v1_, v2_, v3_, v4_, v5_, v6_, v7_, v8_, v9_, v10_, v11_, v12_, v13_, v14_⟩ := cells15 hTd
  obtain ⟨z0_, z1_, z2_, z3_, z4_, z5_, z6_, z7_, z8_, z9_, z10_, z11_, z12_, z13_, z14_⟩ := cells15 hRd
  obtain ⟨zf0_, zf1_, zf2_, zf3_, zf4_, zf5_, zf6_, zf7_, zf8_, zf9_, zf10_, zf11_, zf12_, zf13_, zf14_⟩ := frozen15 hRd
  have HRD := Aside0.mk hRd
  clear hm hTd hRd hT2 hR2
  go_wp2_with fail
  clear u0_ uf0_ u1_ uf1_ u2_ uf2_ u3_ uf3_ u4_ uf4_ u5_ uf5_ u6_ uf6_ v0_ z0_ zf0_ v1_ z1_ zf1_ v2_ z2_ zf2_ v3_ z3_ zf3_ v4_ z4_ zf4_ v5_ z5_ zf5_ v6_ z6_ zf6_ v7_ z7_ zf7_ v8_ z8_ zf8_ v9_ z9_ zf9_ v10_ z10_ zf10_ v11_ z11_ zf11_ v12_ z12_ zf12_ v13_ z13_ zf13_ v14_ z14_ zf14_
  have hs := setAll_spec HRD.out [.slice Ah 512 ch, .slice Ac 512 cc, .bool isb, .int .u64 x, .slice V1 n1 c1, .int .u32 y, .slice V3 n3 c3, .slice Eh 512 eh, .slice Ec 512 ec, .bool isb3, .int .u64 x3, .slice U1 m1 f1, .int .u32 y3, .slice U3 m3 f3, .slice Lb nb cb] rfl
  rw [setAll15]
  generalize setAll ((put7b w2 (w.heap.size) (.slice Eh 512 eh) (.slice Ec 512 ec) (.bool isb3) (.int .u64 x3) (.slice U1 m1 f1) (.int .u32 y3) (.slice U3 m3 f3))) (w.heap.size + 1 + 1) 0 [.slice Ah 512 ch, .slice Ac 512 cc, .bool isb, .int .u64 x, .slice V1 n1 c1, .int .u32 y, .slice V3 n3 c3, .slice Eh 512 eh, .slice Ec 512 ec, .bool isb3, .int .u64 x3, .slice U1 m1 f1, .int .u32 y3, .slice U3 m3 f3, .slice Lb nb cb] = WZ at hs ⊢
  have hLZ : Leaves b (put7b w2 (w.heap.size) (.slice Eh 512 eh) (.slice Ec 512 ec) (.bool isb3) (.int .u64 x3) (.slice U1 m1 f1) (.int .u32 y3) (.slice U3 m3 f3)) WZ := leaves_all HRD.out (.inl rfl) (by omega) hs.2.1
  have hbl : Below w.heap.size w WZ := hs.2.2 _ _ (by omega) HBD.out
  have hz := hs.1
  have hLx := HLD.out.trans hLZ
  have hLA := HL2.out.trans hLx
  clear hs
  obtain ⟨q0, q1, q2, q3, q4, q5, q6, q7, q8, q9, q10, q11, q12, q13, q14⟩ := cells15 hz
  refine bodyPost_ret (v := .tuple #[.agg #[.slice Ah 512 ch, .slice Ac 512 cc, .bool isb, .int .u64 x, .slice V1 n1 c1, .int .u32 y, .slice V3 n3 c3, .slice Eh 512 eh, .slice Ec 512 ec, .bool isb3, .int .u64 x3, .slice U1 m1 f1, .int .u32 y3, .slice U3 m3 f3, .slice Lb nb cb], .bool true]) (by simp [results, Try.results118, go_sem, q0, q1, q2, q3, q4, q5, q6, q7, q8, q9, q10, q11, q12, q13, q14]) rfl ?_
  have hfz := HF2.out.step hLx
  refine ⟨[.slice Ah 512 ch, .slice Ac 512 cc, .bool isb, .int .u64 x, .slice V1 n1 c1, .int .u32 y, .slice V3 n3 c3, .slice Eh 512 eh, .slice Ec 512 ec, .bool isb3, .int .u64 x3, .slice U1 m1 f1, .int .u32 y3, .slice U3 m3 f3, .slice Lb nb cb], rfl, ⟨[.slice Ah 512 ch, .slice Ac 512 cc, .bool isb, .int .u64 x, .slice V1 n1 c1, .int .u32 y, .slice V3 n3 c3], [.slice Eh 512 eh, .slice Ec 512 ec, .bool isb3, .int .u64 x3, .slice U1 m1 f1, .int .u32 y3, .slice U3 m3 f3], Lb, nb, cb, rows ++ [[.int .i64 2, .int .i64 0, .slice none 0 0, .int .u64 xt, .slice W1 ss.length d1, .int .u32 yt, .slice W3 kn.length d3]], rfl, H1.out.step hLA, HST.out.step hLx, HNB.out.symm, ?_, ?_, All2.snoc (forall2_imp (fun _ _ q => q.step hLA) H6.out) ?_⟩, hbl⟩
  · obtain ⟨gL, kL, eL, _⟩ := Kd.R_form HO2.out (by simp)
    simp only [Value.slice.injEq] at eL
    exact ⟨HNB.out ▸ hcap, fun _ => ⟨gL, eL.1⟩⟩
  · exact hfz.imp fun W h => by rw [HNB.out]; exact h
  · exact ⟨xt, W1, d1, ss, yt, W3, d3, kn, rfl, g1.step hLA, g2⟩
set_option maxRecDepth 100000 in
set_option maxHeartbeats 8000000 in
theorem do_no_save (w : World) (b : Nat) (hb : b ≤ w.heap.size) (vs : List Value) (A1 A2 : Hist × List Int) (steps : List Step) (h : RT b w vs A1 A2 steps)
    (xt : Int) (W1 : Option Addr) (d1 : Nat) (ss : List Int) (yt : Int) (W3 : Option Addr) (d3 : Nat) (kn : List Int) (g1 : TokR b w W1 d1 ss W3 d3 kn) (g3 : scullerref14_Right.f (8 * kn.length + 31) xt ss yt kn = some false) :
    Calls Try.prog 118 #[.agg vs.toArray, .agg #[.int .i64 2, .int .i64 0, .slice none 0 0, .int .u64 xt, .slice W1 ss.length d1, .int .u32 yt, .slice W3 kn.length d3]] w fun e w' => e = .returned (.tuple #[.agg vs.toArray, .bool false]) ∧ Below w.heap.size w w' := by
  obtain ⟨Ah, ch, Ac, cc, isb, x, V1, n1, c1, y, V3, n3, c3, Bh, ch2, Bc, cc2, isb2, x2, V12, n12, c12, y2, V32, n32, c32, L, n, cl, rows, rfl, h1, h2, h3, h4, h5, h6⟩ := h.shape
  subst h3
  clear h h1 h2 h4 h5 h6
  have nRT : w.heap.size + 1 + 1 ≠ w.heap.size := by omega
  have hbz : Below w.heap.size w (((w.alloc (.cells #[.slice Ah 512 ch, .slice Ac 512 cc, .bool isb, .int .u64 x, .slice V1 n1 c1, .int .u32 y, .slice V3 n3 c3, .slice Bh 512 ch2, .slice Bc 512 cc2, .bool isb2, .int .u64 x2, .slice V12 n12 c12, .int .u32 y2, .slice V32 n32 c32, .slice L rows.length cl] 100)).alloc (.cells #[.int .i64 2, .int .i64 0, .slice none 0 0, .int .u64 xt, .slice W1 ss.length d1, .int .u32 yt, .slice W3 kn.length d3] 152)).alloc (.cells #[.slice none 0 0, .slice none 0 0, .bool false, .int .u64 0, .slice none 0 0, .int .u32 0, .slice none 0 0, .slice none 0 0, .slice none 0 0, .bool false, .int .u64 0, .slice none 0 0, .int .u32 0, .slice none 0 0, .slice none 0 0] 100)) := below_alloc (below_alloc (below_alloc (Below.refl w.heap.size w) (.cells #[.slice Ah 512 ch, .slice Ac 512 cc, .bool isb, .int .u64 x, .slice V1 n1 c1, .int .u32 y, .slice V3 n3 c3, .slice Bh 512 ch2, .slice Bc 512 cc2, .bool isb2, .int .u64 x2, .slice V12 n12 c12, .int .u32 y2, .slice V32 n32 c32, .slice L rows.length cl] 100)) (.cells #[.int .i64 2, .int .i64 0, .slice none 0 0, .int .u64 xt, .slice W1 ss.length d1, .int .u32 yt, .slice W3 kn.length d3] 152)) (.cells #[.slice none 0 0, .slice none 0 0, .bool false, .int .u64 0, .slice none 0 0, .int .u32 0, .slice none 0 0, .slice none 0 0, .slice none 0 0, .bool false, .int .u64 0, .slice none 0 0, .int .u32 0, .slice none 0 0, .slice none 0 0] 100)
  have hT := blk_alloc (blk_alloc (blk_new w (.cells #[.slice Ah 512 ch, .slice Ac 512 cc, .bool isb, .int .u64 x, .slice V1 n1 c1, .int .u32 y, .slice V3 n3 c3, .slice Bh 512 ch2, .slice Bc 512 cc2, .bool isb2, .int .u64 x2, .slice V12 n12 c12, .int .u32 y2, .slice V32 n32 c32, .slice L rows.length cl] 100)) (.cells #[.int .i64 2, .int .i64 0, .slice none 0 0, .int .u64 xt, .slice W1 ss.length d1, .int .u32 yt, .slice W3 kn.length d3] 152)) (.cells #[.slice none 0 0, .slice none 0 0, .bool false, .int .u64 0, .slice none 0 0, .int .u32 0, .slice none 0 0, .slice none 0 0, .slice none 0 0, .bool false, .int .u64 0, .slice none 0 0, .int .u32 0, .slice none 0 0, .slice none 0 0] 100)
  have hR := blk_new ((w.alloc (.cells #[.slice Ah 512 ch, .slice Ac 512 cc, .bool isb, .int .u64 x, .slice V1 n1 c1, .int .u32 y, .slice V3 n3 c3, .slice Bh 512 ch2, .slice Bc 512 cc2, .bool isb2, .int .u64 x2, .slice V12 n12 c12, .int .u32 y2, .slice V32 n32 c32, .slice L rows.length cl] 100)).alloc (.cells #[.int .i64 2, .int .i64 0, .slice none 0 0, .int .u64 xt, .slice W1 ss.length d1, .int .u32 yt, .slice W3 kn.length d3] 152)) (.cells #[.slice none 0 0, .slice none 0 0, .bool false, .int .u64 0, .slice none 0 0, .int .u32 0, .slice none 0 0, .slice none 0 0, .slice none 0 0, .bool false, .int .u64 0, .slice none 0 0, .int .u32 0, .slice none 0 0, .slice none 0 0] 100)
  rw [World.size_alloc, World.size_alloc] at hR
  have HQ := Aside0.mk (scullerref14_Right.calls (8 * kn.length + 31) xt W1 d1 ss yt W3 d3 kn false (((w.alloc (.cells #[.slice Ah 512 ch, .slice Ac 512 cc, .bool isb, .int .u64 x, .slice V1 n1 c1, .int .u32 y, .slice V3 n3 c3, .slice Bh 512 ch2, .slice Bc 512 cc2, .bool isb2, .int .u64 x2, .slice V12 n12 c12, .int .u32 y2, .slice V32 n32 c32, .slice L rows.length cl] 100)).alloc (.cells #[.int .i64 2, .int .i64 0, .slice none 0 0, .int .u64 xt, .slice W1 ss.length d1, .int .u32 yt, .slice W3 kn.length d3] 152)).alloc (.cells #[.slice none 0 0, .slice none 0 0, .bool false, .int .u64 0, .slice none 0 0, .int .u32 0, .slice none 0 0, .slice none 0 0, .slice none 0 0, .bool false, .int .u64 0, .slice none 0 0, .int .u32 0, .slice none 0 0, .slice none 0 0] 100)) ((g1.2.2.1).step (Leaves.of_below hbz hb)).now g1.1 ((g1.2.2.2).step (Leaves.of_below hbz hb)).now g1.2.1 g3)
  generalize hwz : (((w.alloc (.cells #[.slice Ah 512 ch, .slice Ac 512 cc, .bool isb, .int .u64 x, .slice V1 n1 c1, .int .u32 y, .slice V3 n3 c3, .slice Bh 512 ch2, .slice Bc 512 cc2, .bool isb2, .int .u64 x2, .slice V12 n12 c12, .int .u32 y2, .slice V32 n32 c32, .slice L rows.length cl] 100)).alloc (.cells #[.int .i64 2, .int .i64 0, .slice none 0 0, .int .u64 xt, .slice W1 ss.length d1, .int .u32 yt, .slice W3 kn.length d3] 152)).alloc (.cells #[.slice none 0 0, .slice none 0 0, .bool false, .int .u64 0, .slice none 0 0, .int .u32 0, .slice none 0 0, .slice none 0 0, .slice none 0 0, .bool false, .int .u64 0, .slice none 0 0, .int .u32 0, .slice none 0 0, .slice none 0 0] 100)) = wz at hbz hT hR HQ
  have HWZ := Aside0.mk hwz
  clear hwz
  go_enter Try.func118, Try.ntmps118
  go_wp2_with fail
  rw [HWZ.out]
  refine HQ.out.mono ?_
  rintro e wy ⟨rfl, hbq⟩
  have hT := blk_below hT hbq
  have hR := blk_below hR hbq
  have hbz := below_step hbz hbq
  clear hbq HWZ HQ
  obtain ⟨t0, t1, t2, t3, t4, t5, t6, t7, t8, t9, t10, t11, t12, t13, t14⟩ := cells15 hT
  obtain ⟨r0, r1, r2, r3, r4, r5, r6, r7, r8, r9, r10, r11, r12, r13, r14⟩ := cells15 hR
  obtain ⟨rf0, rf1, rf2, rf3, rf4, rf5, rf6, rf7, rf8, rf9, rf10, rf11, rf12, rf13, rf14⟩ := frozen15 hR
  have HR := Aside0.mk hR
  have HBZ := Aside0.mk hbz
  clear hT hR hbz
  go_wp2_with fail
  clear t0 t1 t2 t3 t4 t5 t6 t7 t8 t9 t10 t11 t12 t13 t14 r0 r1 r2 r3 r4 r5 r6 r7 r8 r9 r10 r11 r12 r13 r14 rf0 rf1 rf2 rf3 rf4 rf5 rf6 rf7 rf8 rf9 rf10 rf11 rf12 rf13 rf14
  have hs := setAll_spec HR.out [.slice Ah 512 ch, .slice Ac 512 cc, .bool isb, .int .u64 x, .slice V1 n1 c1, .int .u32 y, .slice V3 n3 c3, .slice Bh 512 ch2, .slice Bc 512 cc2, .bool isb2, .int .u64 x2, .slice V12 n12 c12, .int .u32 y2, .slice V32 n32 c32, .slice L rows.length cl] rfl
  rw [setAll15]
  generalize setAll (wy) (w.heap.size + 1 + 1) 0 [.slice Ah 512 ch, .slice Ac 512 cc, .bool isb, .int .u64 x, .slice V1 n1 c1, .int .u32 y, .slice V3 n3 c3, .slice Bh 512 ch2, .slice Bc 512 cc2, .bool isb2, .int .u64 x2, .slice V12 n12 c12, .int .u32 y2, .slice V32 n32 c32, .slice L rows.length cl] = WZ at hs ⊢
  have hbl : Below w.heap.size w WZ := hs.2.2 _ _ (by omega) HBZ.out
  have hz := hs.1
  obtain ⟨q0, q1, q2, q3, q4, q5, q6, q7, q8, q9, q10, q11, q12, q13, q14⟩ := cells15 hz
  refine bodyPost_ret (v := .tuple #[.agg #[.slice Ah 512 ch, .slice Ac 512 cc, .bool isb, .int .u64 x, .slice V1 n1 c1, .int .u32 y, .slice V3 n3 c3, .slice Bh 512 ch2, .slice Bc 512 cc2, .bool isb2, .int .u64 x2, .slice V12 n12 c12, .int .u32 y2, .slice V32 n32 c32, .slice L rows.length cl], .bool false]) (by simp [results, Try.results118, go_sem, q0, q1, q2, q3, q4, q5, q6, q7, q8, q9, q10, q11, q12, q13, q14]) rfl ?_
  exact ⟨rfl, hbl⟩
end Go.Proofs.Ytliohoalackhiaa.T
