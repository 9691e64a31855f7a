/- The document's store: a step done. -/
import Derived.Test.YtliohoalackhiaaPTKKB
import Derived.Lib.Hide
import Derived.Deep.DeepMust
namespace Go.Proofs.Ytliohoalackhiaa.T
open Go.ChangeMaps hiding rd
open Go.RowKit Go.Maps Go.Proofs.YtliohoalackhiaaW.PrintWords Go.Proofs.YtliohoalackhiaaW.PrintLast Go.Proofs.YtliohoalackhiaaW.PrintMore Go.Proofs.Ytliohoalackhiaa.Num Go.Proofs.Ytliohoalackhiaa.CrcN
set_option linter.unusedVariables false
set_option linter.unusedSimpArgs false
theorem getA_put (j : Int) (x : List Int) (t : Hist) (i : Int) : getA ((j, x) :: t) i = if j = i then some x else getA t i := by
  unfold getA
  rw [List.find?_cons]
  by_cases e : j = i
  · rw [if_pos e, show ((j, x).1 == i) = true from beq_iff_eq.mpr e]; rfl
  · rw [if_neg e, show ((j, x).1 == i) = false from beq_eq_false_iff_ne.mpr e]
theorem getD_set {α : Type} (l : List α) (k i : Nat) (v d : α) (hk : k < l.length) : (l.set k v).getD i d = if k = i then v else l.getD i d := by
  rw [List.getD_eq_getElem?_getD, List.getD_eq_getElem?_getD, List.getElem?_set]
  by_cases e : k = i
  · subst e; simp [hk]
  · simp [e]
set_option maxRecDepth 100000 in
set_option maxHeartbeats 4000000 in
theorem done_put (w : World) (b : Nat) (hb : b ≤ w.heap.size) (A : Hist × List Int) (Ah : Option Addr) (ch : Nat) (has : List Bool) (Ac : Option Addr) (cc : Nat) (rows : List (Option Addr × Nat × Nat)) (isb : Bool) (x : Int) (V1 : Option Addr) (c1 : Nat) (ss : List Int) (y : Int) (V3 : Option Addr) (c3 : Nat) (kn : List Int)
    (h1 : 512 ≤ ch) (h2 : 512 ≤ cc) (h3 : has.length = 512) (h4 : rows.length = 512) (h5 : Firm b w (fun W => Kd.C Kd.bool W Ah has.length has)) (h6 : Firm b w (fun W => Kd.C SL W Ac rows.length rows))
    (h7 : ∀ i : Nat, i < 512 → has.getD i false = (getA A.1 (i : Int)).isSome) (h8 : ∀ i : Nat, i < 512 → ∀ l, getA A.1 (i : Int) = some l → ∃ B c, rows.getD i (none, 0, 0) = (B, l.length, c) ∧ l.length ≤ c ∧ Bytes l ∧ Firm b w (fun W => Kd.C (Kd.int .u8) W B l.length l))
    (h9 : TokR b w V1 c1 ss V3 c3 kn) (h10 : TokIs isb x ss y kn A.2)
    (i : Int) (xs : List Int) (B : Option Addr) (c : Nat) (hi : 0 ≤ i ∧ i < 512) (hxc : xs.length ≤ c) (hxb : Bytes xs) (hxC : Firm b w (fun W => Kd.C (Kd.int .u8) W B xs.length xs)) :
    Calls Try.prog 146 #[.agg #[.slice Ah 512 ch, .slice Ac 512 cc, .bool isb, .int .u64 x, .slice V1 ss.length c1, .int .u32 y, .slice V3 kn.length c3], .agg #[.int .i64 1, .int .i64 i, .slice B xs.length c, .int .u64 0, .slice none 0 0, .int .u32 0, .slice none 0 0]] w fun e w' => ∃ vs' : List Value, e = .returned (.agg vs'.toArray) ∧ RState b w' vs' (app (.put i xs) A) ∧ Below w.heap.size w w' := by
  have hbz : Below w.heap.size w (((w.alloc (.cells #[.slice Ah 512 ch, .slice Ac 512 cc, .bool isb, .int .u64 x, .slice V1 ss.length c1, .int .u32 y, .slice V3 kn.length c3] 97)).alloc (.cells #[.int .i64 1, .int .i64 i, .slice B xs.length c, .int .u64 0, .slice none 0 0, .int .u32 0, .slice none 0 0] 152)).alloc (.cells #[.slice none 0 0, .slice none 0 0, .bool false, .int .u64 0, .slice none 0 0, .int .u32 0, .slice none 0 0] 97)) := below_alloc (below_alloc (below_alloc (Below.refl w.heap.size w) (.cells #[.slice Ah 512 ch, .slice Ac 512 cc, .bool isb, .int .u64 x, .slice V1 ss.length c1, .int .u32 y, .slice V3 kn.length c3] 97)) (.cells #[.int .i64 1, .int .i64 i, .slice B xs.length c, .int .u64 0, .slice none 0 0, .int .u32 0, .slice none 0 0] 152)) (.cells #[.slice none 0 0, .slice none 0 0, .bool false, .int .u64 0, .slice none 0 0, .int .u32 0, .slice none 0 0] 97)
  have hS := blk_alloc (blk_alloc (blk_new w (.cells #[.slice Ah 512 ch, .slice Ac 512 cc, .bool isb, .int .u64 x, .slice V1 ss.length c1, .int .u32 y, .slice V3 kn.length c3] 97)) (.cells #[.int .i64 1, .int .i64 i, .slice B xs.length c, .int .u64 0, .slice none 0 0, .int .u32 0, .slice none 0 0] 152)) (.cells #[.slice none 0 0, .slice none 0 0, .bool false, .int .u64 0, .slice none 0 0, .int .u32 0, .slice none 0 0] 97)
  have hX := blk_alloc (blk_new (w.alloc (.cells #[.slice Ah 512 ch, .slice Ac 512 cc, .bool isb, .int .u64 x, .slice V1 ss.length c1, .int .u32 y, .slice V3 kn.length c3] 97)) (.cells #[.int .i64 1, .int .i64 i, .slice B xs.length c, .int .u64 0, .slice none 0 0, .int .u32 0, .slice none 0 0] 152)) (.cells #[.slice none 0 0, .slice none 0 0, .bool false, .int .u64 0, .slice none 0 0, .int .u32 0, .slice none 0 0] 97)
  have hR := blk_new ((w.alloc (.cells #[.slice Ah 512 ch, .slice Ac 512 cc, .bool isb, .int .u64 x, .slice V1 ss.length c1, .int .u32 y, .slice V3 kn.length c3] 97)).alloc (.cells #[.int .i64 1, .int .i64 i, .slice B xs.length c, .int .u64 0, .slice none 0 0, .int .u32 0, .slice none 0 0] 152)) (.cells #[.slice none 0 0, .slice none 0 0, .bool false, .int .u64 0, .slice none 0 0, .int .u32 0, .slice none 0 0] 97)
  rw [World.size_alloc] at hX
  rw [World.size_alloc, World.size_alloc] at hR
  have hca : Kd.C Kd.bool (((w.alloc (.cells #[.slice Ah 512 ch, .slice Ac 512 cc, .bool isb, .int .u64 x, .slice V1 ss.length c1, .int .u32 y, .slice V3 kn.length c3] 97)).alloc (.cells #[.int .i64 1, .int .i64 i, .slice B xs.length c, .int .u64 0, .slice none 0 0, .int .u32 0, .slice none 0 0] 152)).alloc (.cells #[.slice none 0 0, .slice none 0 0, .bool false, .int .u64 0, .slice none 0 0, .int .u32 0, .slice none 0 0] 97)) Ah 512 has := h3 ▸ (h5.step (Leaves.of_below hbz hb)).now
  have hcb : Kd.C SL w Ac 512 rows := h4 ▸ h6.now
  have HCA := Aside0.mk hca
  have HCB := Aside0.mk hcb
  have HS := Aside0.mk hS
  have HX := Aside0.mk hX
  have HR := Aside0.mk hR
  have HBZ := Aside0.mk hbz
  obtain ⟨k, rfl⟩ : ∃ k : Nat, i = k := ⟨i.toNat, by omega⟩
  have hk5 : k < 512 := by omega
  have hl3 : ([] : List Bool).length + 512 = 512 := rfl
  clear hca hcb hS hX hR hbz
  go_enter Try.func146, Try.ntmps146
  go_wp2_with (at_builtin; first | (refine Kd.R_append_rows Kd.bool (w0 := w) w.heap.size rfl (.tmp 11) (.tmp 13) 23 4 (.bool false) 1 rfl Try.underlying23 infoBool rfl (by decide) (by omega) (.slice none 0 0) ([] : List Bool) has Ah 512 ch (fun _ => True) (fun _ => False) rfl rfl (Kd.R_nil _ _ _ _ _) HCA.out (fun _ _ h => h) (fun _ h => h.elim) (fun _ _ => trivial) HBZ.out HBZ.out.size (by simp) ?_; intro v1 wa ho hb1 hg1 hat1; have ho : Kd.R Kd.bool 4 wa w.heap.size (fun _ => True) v1 has := ho; obtain ⟨g1, k1, e1, gb1, gl1, cl1, hk1⟩ := Kd.R_form ho (by omega); subst e1; have HO1 := Aside0.mk ho; have HB1 := Aside0.mk hb1; have HS1 := Aside0.mk (blk_grown HS.out hg1 (by simp [Value.ownBlock])); have HX1 := Aside0.mk (blk_grown HX.out hg1 (by simp [Value.ownBlock])); have HR1 := Aside0.mk (blk_grown HR.out hg1 (by simp [Value.ownBlock])); have s1 : wa.cell? ⟨w.heap.size, 1, none⟩ = some (.slice Ac 512 cc) := (blk_cell HS1.out 1).trans rfl; clear ho hb1 hg1 hat1 gl1 hk1) | (refine Kd.R_append_rows SL (w0 := w) w.heap.size rfl (.tmp 15) (.tmp 17) 95 22 (.slice none 0 0) 24 rfl Try.underlying95 infoRow rfl (by decide) (by omega) (.slice none 0 0) ([] : List (Option Addr × Nat × Nat)) rows Ac 512 cc (fun _ => True) (fun _ => False) rfl rfl (Kd.R_nil _ _ _ _ _) (Kd.C_below HCB.out HB1.out) (fun _ _ h => h) (fun _ h => h.elim) (fun _ _ => trivial) HB1.out HB1.out.size (by simp) ?_; intro v2 wb ho hb2 hg2 hat2; have ho : Kd.R SL 22 wb w.heap.size (fun _ => True) v2 rows := ho; obtain ⟨g2, k2, e2, gb2, gl2, cl2, hk2⟩ := Kd.R_form ho (by omega); subst e2; have HO2 := Aside0.mk ho; have HB2 := Aside0.mk hb2; have HS2 := Aside0.mk (blk_grown HS1.out hg2 (by simp [Value.ownBlock])); have HX2 := Aside0.mk (blk_grown HX1.out hg2 (by simp [Value.ownBlock])); have HR2 := Aside0.mk (blk_grown HR1.out hg2 (by simp [Value.ownBlock])); have HO1b := Aside0.mk (Kd.R_grown HO1.out hg2 (fun _ _ => by simp [Value.ownBlock])); have HK2 := Aside0.mk hk2; obtain ⟨q1, hq1⟩ := Kd.R_typed HO1b.out g1 rfl; have n1S := blk_ne HS2.out hq1 (by decide); have n1X := blk_ne HX2.out hq1 (by decide); have n1R := blk_ne HR2.out hq1 (by decide); have n2S := blk_ne HS2.out hk2 (by decide); have n2X := blk_ne HX2.out hk2 (by decide); have n2R := blk_ne HR2.out hk2 (by decide); have n12 := blk_ne hq1 hk2 (by decide); have HSc := blk_far HS2.out (p := ⟨g1, k, none⟩) n1S (.bool true); have HXc := blk_far HX2.out (p := ⟨g1, k, none⟩) n1X (.bool true); have HRc := blk_far HR2.out (p := ⟨g1, k, none⟩) n1R (.bool true); have Hkc := blk_far hk2 (p := ⟨g1, k, none⟩) (Ne.symm n12) (.bool true); have HSd := blk_far HSc (p := ⟨g2, k, none⟩) n2S (.slice B xs.length c); have HRd := blk_far HRc (p := ⟨g2, k, none⟩) n2R (.slice B xs.length c); have HSe := blk_put HSd 0 (.slice (some ⟨g1, 0, none⟩) 512 k1) rfl; have HSf := blk_put HSe 1 (.slice (some ⟨g2, 0, none⟩) 512 k2) rfl; have nRS : w.heap.size + 1 + 1 ≠ w.heap.size := (by omega); have HRe := blk_far HRd (p := ⟨w.heap.size, 0, none⟩) nRS (.slice (some ⟨g1, 0, none⟩) 512 k1); have HRf := blk_far HRe (p := ⟨w.heap.size, 1, none⟩) nRS (.slice (some ⟨g2, 0, none⟩) 512 k2); have a1 := (Kd.R_putg HO1b.out (k : Int) true).1; rw [Int.toNat_natCast] at a1; have a2 := Kd.R_set HO2.out hq1 (by decide) k (.bool true); have b1 := Kd.R_set a1 Hkc (by decide) k (.slice B xs.length c); have b2 := (Kd.R_putg a2 (k : Int) (B, xs.length, c)).1; rw [Int.toNat_natCast] at b2; have cc1 := Kd.R_celln false HO1b.out (k : Int) (by omega) (by omega); rw [Int.toNat_natCast] at cc1; obtain ⟨u1, u1f⟩ := cc1; have cc2 := Kd.R_celln (none, 0, 0) a2 (k : Int) (by omega) (by omega); rw [Int.toNat_natCast] at cc2; obtain ⟨u2, u2f⟩ := cc2; have x1 : wb.cell? ⟨w.heap.size + 1, 1, none⟩ = some (.int .i64 k) := (blk_cell HX2.out 1).trans rfl; have x1c : (wb.setCell ⟨g1, k, none⟩ (.bool true)).cell? ⟨w.heap.size + 1, 1, none⟩ = some (.int .i64 k) := (blk_cell HXc 1).trans rfl; have x2c : (wb.setCell ⟨g1, k, none⟩ (.bool true)).cell? ⟨w.heap.size + 1, 2, none⟩ = some (.slice B xs.length c) := (blk_cell HXc 2).trans rfl; have sd0 : ((wb.setCell ⟨g1, k, none⟩ (.bool true)).setCell ⟨g2, k, none⟩ (.slice B xs.length c)).cell? ⟨w.heap.size, 0, none⟩ = some (.slice Ah 512 ch) := (blk_cell HSd 0).trans rfl; have sd0f : ((wb.setCell ⟨g1, k, none⟩ (.bool true)).setCell ⟨g2, k, none⟩ (.slice B xs.length c)).frozen? ⟨w.heap.size, 0, none⟩ = false := blk_frozen HSd 0; have se1 : (((wb.setCell ⟨g1, k, none⟩ (.bool true)).setCell ⟨g2, k, none⟩ (.slice B xs.length c)).setCell ⟨w.heap.size, 0, none⟩ (.slice (some ⟨g1, 0, none⟩) 512 k1)).cell? ⟨w.heap.size, 1, none⟩ = some (.slice Ac 512 cc) := (blk_cell HSe 1).trans rfl; have se1f : (((wb.setCell ⟨g1, k, none⟩ (.bool true)).setCell ⟨g2, k, none⟩ (.slice B xs.length c)).setCell ⟨w.heap.size, 0, none⟩ (.slice (some ⟨g1, 0, none⟩) 512 k1)).frozen? ⟨w.heap.size, 1, none⟩ = false := blk_frozen HSe 1; have sf0 : ((((wb.setCell ⟨g1, k, none⟩ (.bool true)).setCell ⟨g2, k, none⟩ (.slice B xs.length c)).setCell ⟨w.heap.size, 0, none⟩ (.slice (some ⟨g1, 0, none⟩) 512 k1)).setCell ⟨w.heap.size, 1, none⟩ (.slice (some ⟨g2, 0, none⟩) 512 k2)).cell? ⟨w.heap.size, 0, none⟩ = some (.slice (some ⟨g1, 0, none⟩) 512 k1) := (blk_cell HSf 0).trans rfl; have sf1 : ((((wb.setCell ⟨g1, k, none⟩ (.bool true)).setCell ⟨g2, k, none⟩ (.slice B xs.length c)).setCell ⟨w.heap.size, 0, none⟩ (.slice (some ⟨g1, 0, none⟩) 512 k1)).setCell ⟨w.heap.size, 1, none⟩ (.slice (some ⟨g2, 0, none⟩) 512 k2)).cell? ⟨w.heap.size, 1, none⟩ = some (.slice (some ⟨g2, 0, none⟩) 512 k2) := (blk_cell HSf 1).trans rfl; have sf2 : ((((wb.setCell ⟨g1, k, none⟩ (.bool true)).setCell ⟨g2, k, none⟩ (.slice B xs.length c)).setCell ⟨w.heap.size, 0, none⟩ (.slice (some ⟨g1, 0, none⟩) 512 k1)).setCell ⟨w.heap.size, 1, none⟩ (.slice (some ⟨g2, 0, none⟩) 512 k2)).cell? ⟨w.heap.size, 2, none⟩ = some (.bool isb) := (blk_cell HSf 2).trans rfl; have sf3 : ((((wb.setCell ⟨g1, k, none⟩ (.bool true)).setCell ⟨g2, k, none⟩ (.slice B xs.length c)).setCell ⟨w.heap.size, 0, none⟩ (.slice (some ⟨g1, 0, none⟩) 512 k1)).setCell ⟨w.heap.size, 1, none⟩ (.slice (some ⟨g2, 0, none⟩) 512 k2)).cell? ⟨w.heap.size, 3, none⟩ = some (.int .u64 x) := (blk_cell HSf 3).trans rfl; have sf4 : ((((wb.setCell ⟨g1, k, none⟩ (.bool true)).setCell ⟨g2, k, none⟩ (.slice B xs.length c)).setCell ⟨w.heap.size, 0, none⟩ (.slice (some ⟨g1, 0, none⟩) 512 k1)).setCell ⟨w.heap.size, 1, none⟩ (.slice (some ⟨g2, 0, none⟩) 512 k2)).cell? ⟨w.heap.size, 4, none⟩ = some (.slice V1 ss.length c1) := (blk_cell HSf 4).trans rfl; have sf5 : ((((wb.setCell ⟨g1, k, none⟩ (.bool true)).setCell ⟨g2, k, none⟩ (.slice B xs.length c)).setCell ⟨w.heap.size, 0, none⟩ (.slice (some ⟨g1, 0, none⟩) 512 k1)).setCell ⟨w.heap.size, 1, none⟩ (.slice (some ⟨g2, 0, none⟩) 512 k2)).cell? ⟨w.heap.size, 5, none⟩ = some (.int .u32 y) := (blk_cell HSf 5).trans rfl; have sf6 : ((((wb.setCell ⟨g1, k, none⟩ (.bool true)).setCell ⟨g2, k, none⟩ (.slice B xs.length c)).setCell ⟨w.heap.size, 0, none⟩ (.slice (some ⟨g1, 0, none⟩) 512 k1)).setCell ⟨w.heap.size, 1, none⟩ (.slice (some ⟨g2, 0, none⟩) 512 k2)).cell? ⟨w.heap.size, 6, none⟩ = some (.slice V3 kn.length c3) := (blk_cell HSf 6).trans rfl; have rf0 : ((((wb.setCell ⟨g1, k, none⟩ (.bool true)).setCell ⟨g2, k, none⟩ (.slice B xs.length c)).setCell ⟨w.heap.size, 0, none⟩ (.slice (some ⟨g1, 0, none⟩) 512 k1)).setCell ⟨w.heap.size, 1, none⟩ (.slice (some ⟨g2, 0, none⟩) 512 k2)).cell? ⟨w.heap.size + 1 + 1, 0, none⟩ = some (.slice none 0 0) := (blk_cell HRf 0).trans rfl; have rff0 : ((((wb.setCell ⟨g1, k, none⟩ (.bool true)).setCell ⟨g2, k, none⟩ (.slice B xs.length c)).setCell ⟨w.heap.size, 0, none⟩ (.slice (some ⟨g1, 0, none⟩) 512 k1)).setCell ⟨w.heap.size, 1, none⟩ (.slice (some ⟨g2, 0, none⟩) 512 k2)).frozen? ⟨w.heap.size + 1 + 1, 0, none⟩ = false := blk_frozen HRf 0; have rf1 : ((((wb.setCell ⟨g1, k, none⟩ (.bool true)).setCell ⟨g2, k, none⟩ (.slice B xs.length c)).setCell ⟨w.heap.size, 0, none⟩ (.slice (some ⟨g1, 0, none⟩) 512 k1)).setCell ⟨w.heap.size, 1, none⟩ (.slice (some ⟨g2, 0, none⟩) 512 k2)).cell? ⟨w.heap.size + 1 + 1, 1, none⟩ = some (.slice none 0 0) := (blk_cell HRf 1).trans rfl; have rff1 : ((((wb.setCell ⟨g1, k, none⟩ (.bool true)).setCell ⟨g2, k, none⟩ (.slice B xs.length c)).setCell ⟨w.heap.size, 0, none⟩ (.slice (some ⟨g1, 0, none⟩) 512 k1)).setCell ⟨w.heap.size, 1, none⟩ (.slice (some ⟨g2, 0, none⟩) 512 k2)).frozen? ⟨w.heap.size + 1 + 1, 1, none⟩ = false := blk_frozen HRf 1; have rf2 : ((((wb.setCell ⟨g1, k, none⟩ (.bool true)).setCell ⟨g2, k, none⟩ (.slice B xs.length c)).setCell ⟨w.heap.size, 0, none⟩ (.slice (some ⟨g1, 0, none⟩) 512 k1)).setCell ⟨w.heap.size, 1, none⟩ (.slice (some ⟨g2, 0, none⟩) 512 k2)).cell? ⟨w.heap.size + 1 + 1, 2, none⟩ = some (.bool false) := (blk_cell HRf 2).trans rfl; have rff2 : ((((wb.setCell ⟨g1, k, none⟩ (.bool true)).setCell ⟨g2, k, none⟩ (.slice B xs.length c)).setCell ⟨w.heap.size, 0, none⟩ (.slice (some ⟨g1, 0, none⟩) 512 k1)).setCell ⟨w.heap.size, 1, none⟩ (.slice (some ⟨g2, 0, none⟩) 512 k2)).frozen? ⟨w.heap.size + 1 + 1, 2, none⟩ = false := blk_frozen HRf 2; have rf3 : ((((wb.setCell ⟨g1, k, none⟩ (.bool true)).setCell ⟨g2, k, none⟩ (.slice B xs.length c)).setCell ⟨w.heap.size, 0, none⟩ (.slice (some ⟨g1, 0, none⟩) 512 k1)).setCell ⟨w.heap.size, 1, none⟩ (.slice (some ⟨g2, 0, none⟩) 512 k2)).cell? ⟨w.heap.size + 1 + 1, 3, none⟩ = some (.int .u64 0) := (blk_cell HRf 3).trans rfl; have rff3 : ((((wb.setCell ⟨g1, k, none⟩ (.bool true)).setCell ⟨g2, k, none⟩ (.slice B xs.length c)).setCell ⟨w.heap.size, 0, none⟩ (.slice (some ⟨g1, 0, none⟩) 512 k1)).setCell ⟨w.heap.size, 1, none⟩ (.slice (some ⟨g2, 0, none⟩) 512 k2)).frozen? ⟨w.heap.size + 1 + 1, 3, none⟩ = false := blk_frozen HRf 3; have rf4 : ((((wb.setCell ⟨g1, k, none⟩ (.bool true)).setCell ⟨g2, k, none⟩ (.slice B xs.length c)).setCell ⟨w.heap.size, 0, none⟩ (.slice (some ⟨g1, 0, none⟩) 512 k1)).setCell ⟨w.heap.size, 1, none⟩ (.slice (some ⟨g2, 0, none⟩) 512 k2)).cell? ⟨w.heap.size + 1 + 1, 4, none⟩ = some (.slice none 0 0) := (blk_cell HRf 4).trans rfl; have rff4 : ((((wb.setCell ⟨g1, k, none⟩ (.bool true)).setCell ⟨g2, k, none⟩ (.slice B xs.length c)).setCell ⟨w.heap.size, 0, none⟩ (.slice (some ⟨g1, 0, none⟩) 512 k1)).setCell ⟨w.heap.size, 1, none⟩ (.slice (some ⟨g2, 0, none⟩) 512 k2)).frozen? ⟨w.heap.size + 1 + 1, 4, none⟩ = false := blk_frozen HRf 4; have rf5 : ((((wb.setCell ⟨g1, k, none⟩ (.bool true)).setCell ⟨g2, k, none⟩ (.slice B xs.length c)).setCell ⟨w.heap.size, 0, none⟩ (.slice (some ⟨g1, 0, none⟩) 512 k1)).setCell ⟨w.heap.size, 1, none⟩ (.slice (some ⟨g2, 0, none⟩) 512 k2)).cell? ⟨w.heap.size + 1 + 1, 5, none⟩ = some (.int .u32 0) := (blk_cell HRf 5).trans rfl; have rff5 : ((((wb.setCell ⟨g1, k, none⟩ (.bool true)).setCell ⟨g2, k, none⟩ (.slice B xs.length c)).setCell ⟨w.heap.size, 0, none⟩ (.slice (some ⟨g1, 0, none⟩) 512 k1)).setCell ⟨w.heap.size, 1, none⟩ (.slice (some ⟨g2, 0, none⟩) 512 k2)).frozen? ⟨w.heap.size + 1 + 1, 5, none⟩ = false := blk_frozen HRf 5; have rf6 : ((((wb.setCell ⟨g1, k, none⟩ (.bool true)).setCell ⟨g2, k, none⟩ (.slice B xs.length c)).setCell ⟨w.heap.size, 0, none⟩ (.slice (some ⟨g1, 0, none⟩) 512 k1)).setCell ⟨w.heap.size, 1, none⟩ (.slice (some ⟨g2, 0, none⟩) 512 k2)).cell? ⟨w.heap.size + 1 + 1, 6, none⟩ = some (.slice none 0 0) := (blk_cell HRf 6).trans rfl; have rff6 : ((((wb.setCell ⟨g1, k, none⟩ (.bool true)).setCell ⟨g2, k, none⟩ (.slice B xs.length c)).setCell ⟨w.heap.size, 0, none⟩ (.slice (some ⟨g1, 0, none⟩) 512 k1)).setCell ⟨w.heap.size, 1, none⟩ (.slice (some ⟨g2, 0, none⟩) 512 k2)).frozen? ⟨w.heap.size + 1 + 1, 6, none⟩ = false := blk_frozen HRf 6; have hge1 := gb1; have hge2 := gb2; have HFIN := Aside0.mk (And.intro HSd (And.intro HRf (And.intro b1 b2))); have HSD := Aside0.mk HSe; clear HSc HXc HRc Hkc HSd HRd HSe HSf HRe HRf a1 a2 b1 b2; clear ho hb2 hg2 hat2 hk2 s1))

  obtain ⟨HSd, HRf, b1, b2⟩ := HFIN.out
  have b2 : Kd.R SL 22 ((wb.setCell ⟨g1, k, none⟩ (.bool true)).setCell ⟨g2, k, none⟩ (.slice B xs.length c)) w.heap.size (fun _ => True) (.slice (some ⟨g2, 0, none⟩) rows.length k2) (rows.set k (B, xs.length, c)) := b2
  have hbD : Below w.heap.size w ((wb.setCell ⟨g1, k, none⟩ (.bool true)).setCell ⟨g2, k, none⟩ (.slice B xs.length c)) := (HB2.out.setCell (p := ⟨g1, k, none⟩) hge1 (.bool true)).setCell (p := ⟨g2, k, none⟩) hge2 (.slice B xs.length c)
  have hbF : Below w.heap.size w ((((wb.setCell ⟨g1, k, none⟩ (.bool true)).setCell ⟨g2, k, none⟩ (.slice B xs.length c)).setCell ⟨w.heap.size, 0, none⟩ (.slice (some ⟨g1, 0, none⟩) 512 k1)).setCell ⟨w.heap.size, 1, none⟩ (.slice (some ⟨g2, 0, none⟩) 512 k2)) := (hbD.setCell (p := ⟨w.heap.size, 0, none⟩) (Nat.le_refl _) (.slice (some ⟨g1, 0, none⟩) 512 k1)).setCell (p := ⟨w.heap.size, 1, none⟩) (Nat.le_refl _) (.slice (some ⟨g2, 0, none⟩) 512 k2)
  have hLD : Leaves b w ((wb.setCell ⟨g1, k, none⟩ (.bool true)).setCell ⟨g2, k, none⟩ (.slice B xs.length c)) := Leaves.of_below hbD hb
  have hLF : Leaves b ((wb.setCell ⟨g1, k, none⟩ (.bool true)).setCell ⟨g2, k, none⟩ (.slice B xs.length c)) ((((wb.setCell ⟨g1, k, none⟩ (.bool true)).setCell ⟨g2, k, none⟩ (.slice B xs.length c)).setCell ⟨w.heap.size, 0, none⟩ (.slice (some ⟨g1, 0, none⟩) 512 k1)).setCell ⟨w.heap.size, 1, none⟩ (.slice (some ⟨g2, 0, none⟩) 512 k2)) := (leaves_set (.slice (some ⟨g1, 0, none⟩) 512 k1) HSd (.inr rfl) hb).trans (leaves_set (.slice (some ⟨g2, 0, none⟩) 512 k2) HSD.out (.inr rfl) hb)
  have f1 := (firm_R (b := b) b1 (by simp [Kd.bool, Kd.scalar])).step hLF
  have f2 := (firm_R (b := b) b2 (by simp [SL, Kd.scalar])).step hLF
  have hs := setAll_spec HRf [.slice (some ⟨g1, 0, none⟩) 512 k1, .slice (some ⟨g2, 0, none⟩) 512 k2, .bool isb, .int .u64 x, .slice V1 ss.length c1, .int .u32 y, .slice V3 kn.length c3] rfl
  rw [setAll7]
  generalize setAll (((((wb.setCell ⟨g1, k, none⟩ (.bool true)).setCell ⟨g2, k, none⟩ (.slice B xs.length c)).setCell ⟨w.heap.size, 0, none⟩ (.slice (some ⟨g1, 0, none⟩) 512 k1)).setCell ⟨w.heap.size, 1, none⟩ (.slice (some ⟨g2, 0, none⟩) 512 k2))) (w.heap.size + 1 + 1) 0 [.slice (some ⟨g1, 0, none⟩) 512 k1, .slice (some ⟨g2, 0, none⟩) 512 k2, .bool isb, .int .u64 x, .slice V1 ss.length c1, .int .u32 y, .slice V3 kn.length c3] = WZ at hs ⊢
  have hLZ : Leaves b ((((wb.setCell ⟨g1, k, none⟩ (.bool true)).setCell ⟨g2, k, none⟩ (.slice B xs.length c)).setCell ⟨w.heap.size, 0, none⟩ (.slice (some ⟨g1, 0, none⟩) 512 k1)).setCell ⟨w.heap.size, 1, none⟩ (.slice (some ⟨g2, 0, none⟩) 512 k2)) WZ := leaves_all HRf (.inr rfl) (by omega) hs.2.1
  have hbl : Below w.heap.size w WZ := hs.2.2 _ _ (by omega) hbF
  have hz := hs.1
  have f1 := f1.step hLZ
  have f2 := f2.step hLZ
  have hL := hLD.trans (hLF.trans hLZ)
  clear hs
  obtain ⟨d0, d1, d2, d3, d4, d5, d6⟩ := cells7 hz
  refine bodyPost_ret (v := .agg #[.slice (some ⟨g1, 0, none⟩) 512 k1, .slice (some ⟨g2, 0, none⟩) 512 k2, .bool isb, .int .u64 x, .slice V1 ss.length c1, .int .u32 y, .slice V3 kn.length c3]) (by simp [results, Try.results146, go_sem, d0, d1, d2, d3, d4, d5, d6]) rfl ?_
  have hr1 := (Kd.R_reads' HO1b.out).2.1
  have hr2 := (Kd.R_reads' HO2.out).2.1
  have hs1 : (has.set k true).length = 512 := by rw [List.length_set, h3]
  have hs2 : (rows.set k (B, xs.length, c)).length = 512 := by rw [List.length_set, h4]
  refine ⟨_, rfl, ⟨_, _, has.set k true, _, _, rows.set k (B, xs.length, c), isb, x, V1, c1, ss, y, V3, c3, kn, rfl, by omega, by omega, hs1, hs2, ?_, ?_, ?_, ?_, h9.step hL, h10⟩, hbl⟩
  · exact f1.imp fun W h => by rw [hs1]; rw [h3] at h; exact h
  · exact f2.imp fun W h => by rw [hs2]; rw [h4] at h; exact h
  · intro j hj
    show _ = (getA (((k : Int), xs) :: A.1) (j : Int)).isSome
    rw [getA_put, getD_set _ _ _ _ _ (by omega)]
    by_cases e : k = j
    · subst e; rw [if_pos rfl, if_pos rfl]; rfl
    · rw [if_neg e, if_neg (by omega)]; exact h7 j hj
  · intro j hj l hl
    have hl : getA (((k : Int), xs) :: A.1) (j : Int) = some l := hl
    rw [getA_put] at hl
    rw [getD_set _ _ _ _ _ (by omega)]
    by_cases e : k = j
    · subst e
      rw [if_pos rfl] at hl
      obtain rfl := Option.some.inj hl
      rw [if_pos rfl]
      exact ⟨B, c, rfl, hxc, hxb, hxC.step hL⟩
    · rw [if_neg (by omega)] at hl
      rw [if_neg e]
      obtain ⟨B', c', e1, e2, e3, e4⟩ := h8 j hj l hl
      exact ⟨B', c', e1, e2, e3, e4.step hL⟩
set_option maxRecDepth 100000 in
set_option maxHeartbeats 4000000 in
theorem done_save (w : World) (b : Nat) (hb : b ≤ w.heap.size) (A : Hist × List Int) (Ah : Option Addr) (ch : Nat) (has : List Bool) (Ac : Option Addr) (cc : Nat) (rows : List (Option Addr × Nat × Nat)) (isb : Bool) (x : Int) (V1 : Option Addr) (c1 : Nat) (ss : List Int) (y : Int) (V3 : Option Addr) (c3 : Nat) (kn : List Int)
    (h1 : 512 ≤ ch) (h2 : 512 ≤ cc) (h3 : has.length = 512) (h4 : rows.length = 512) (h5 : Firm b w (fun W => Kd.C Kd.bool W Ah has.length has)) (h6 : Firm b w (fun W => Kd.C SL W Ac rows.length rows))
    (h7 : ∀ i : Nat, i < 512 → has.getD i false = (getA A.1 (i : Int)).isSome) (h8 : ∀ i : Nat, i < 512 → ∀ l, getA A.1 (i : Int) = some l → ∃ B c, rows.getD i (none, 0, 0) = (B, l.length, c) ∧ l.length ≤ c ∧ Bytes l ∧ Firm b w (fun W => Kd.C (Kd.int .u8) W B l.length l))
    (h9 : TokR b w V1 c1 ss V3 c3 kn) (h10 : TokIs isb x ss y kn A.2)
    (x2 : Int) (W1 : Option Addr) (d1 : Nat) (ss2 : List Int) (y2 : Int) (W3 : Option Addr) (d3 : Nat) (kn2 : List Int) (E : List Int) (g9 : TokR b w W1 d1 ss2 W3 d3 kn2) (g10 : TokIs true x2 ss2 y2 kn2 E) :
    Calls Try.prog 146 #[.agg #[.slice Ah 512 ch, .slice Ac 512 cc, .bool isb, .int .u64 x, .slice V1 ss.length c1, .int .u32 y, .slice V3 kn.length c3], .agg #[.int .i64 2, .int .i64 0, .slice none 0 0, .int .u64 x2, .slice W1 ss2.length d1, .int .u32 y2, .slice W3 kn2.length d3]] w fun e w' => ∃ vs' : List Value, e = .returned (.agg vs'.toArray) ∧ RState b w' vs' (app (.save E) A) ∧ Below w.heap.size w w' := by
  have hbz : Below w.heap.size w (((w.alloc (.cells #[.slice Ah 512 ch, .slice Ac 512 cc, .bool isb, .int .u64 x, .slice V1 ss.length c1, .int .u32 y, .slice V3 kn.length c3] 97)).alloc (.cells #[.int .i64 2, .int .i64 0, .slice none 0 0, .int .u64 x2, .slice W1 ss2.length d1, .int .u32 y2, .slice W3 kn2.length d3] 152)).alloc (.cells #[.slice none 0 0, .slice none 0 0, .bool false, .int .u64 0, .slice none 0 0, .int .u32 0, .slice none 0 0] 97)) := below_alloc (below_alloc (below_alloc (Below.refl w.heap.size w) (.cells #[.slice Ah 512 ch, .slice Ac 512 cc, .bool isb, .int .u64 x, .slice V1 ss.length c1, .int .u32 y, .slice V3 kn.length c3] 97)) (.cells #[.int .i64 2, .int .i64 0, .slice none 0 0, .int .u64 x2, .slice W1 ss2.length d1, .int .u32 y2, .slice W3 kn2.length d3] 152)) (.cells #[.slice none 0 0, .slice none 0 0, .bool false, .int .u64 0, .slice none 0 0, .int .u32 0, .slice none 0 0] 97)
  have hS := blk_alloc (blk_alloc (blk_new w (.cells #[.slice Ah 512 ch, .slice Ac 512 cc, .bool isb, .int .u64 x, .slice V1 ss.length c1, .int .u32 y, .slice V3 kn.length c3] 97)) (.cells #[.int .i64 2, .int .i64 0, .slice none 0 0, .int .u64 x2, .slice W1 ss2.length d1, .int .u32 y2, .slice W3 kn2.length d3] 152)) (.cells #[.slice none 0 0, .slice none 0 0, .bool false, .int .u64 0, .slice none 0 0, .int .u32 0, .slice none 0 0] 97)
  have hX := blk_alloc (blk_new (w.alloc (.cells #[.slice Ah 512 ch, .slice Ac 512 cc, .bool isb, .int .u64 x, .slice V1 ss.length c1, .int .u32 y, .slice V3 kn.length c3] 97)) (.cells #[.int .i64 2, .int .i64 0, .slice none 0 0, .int .u64 x2, .slice W1 ss2.length d1, .int .u32 y2, .slice W3 kn2.length d3] 152)) (.cells #[.slice none 0 0, .slice none 0 0, .bool false, .int .u64 0, .slice none 0 0, .int .u32 0, .slice none 0 0] 97)
  have hR := blk_new ((w.alloc (.cells #[.slice Ah 512 ch, .slice Ac 512 cc, .bool isb, .int .u64 x, .slice V1 ss.length c1, .int .u32 y, .slice V3 kn.length c3] 97)).alloc (.cells #[.int .i64 2, .int .i64 0, .slice none 0 0, .int .u64 x2, .slice W1 ss2.length d1, .int .u32 y2, .slice W3 kn2.length d3] 152)) (.cells #[.slice none 0 0, .slice none 0 0, .bool false, .int .u64 0, .slice none 0 0, .int .u32 0, .slice none 0 0] 97)
  rw [World.size_alloc] at hX
  rw [World.size_alloc, World.size_alloc] at hR
  clear hbz hS hX hR
  have hbl : Below w.heap.size w (((w.alloc (.cells #[.slice Ah 512 ch, .slice Ac 512 cc, .bool true, .int .u64 x2, .slice W1 ss2.length d1, .int .u32 y2, .slice W3 kn2.length d3] 97)).alloc (.cells #[.int .i64 2, .int .i64 0, .slice none 0 0, .int .u64 x2, .slice W1 ss2.length d1, .int .u32 y2, .slice W3 kn2.length d3] 152)).alloc (.cells #[.slice Ah 512 ch, .slice Ac 512 cc, .bool true, .int .u64 x2, .slice W1 ss2.length d1, .int .u32 y2, .slice W3 kn2.length d3] 97)) := below_alloc (below_alloc (below_alloc (Below.refl w.heap.size w) (.cells #[.slice Ah 512 ch, .slice Ac 512 cc, .bool true, .int .u64 x2, .slice W1 ss2.length d1, .int .u32 y2, .slice W3 kn2.length d3] 97)) (.cells #[.int .i64 2, .int .i64 0, .slice none 0 0, .int .u64 x2, .slice W1 ss2.length d1, .int .u32 y2, .slice W3 kn2.length d3] 152)) (.cells #[.slice Ah 512 ch, .slice Ac 512 cc, .bool true, .int .u64 x2, .slice W1 ss2.length d1, .int .u32 y2, .slice W3 kn2.length d3] 97)
  have hz := blk_new ((w.alloc (.cells #[.slice Ah 512 ch, .slice Ac 512 cc, .bool true, .int .u64 x2, .slice W1 ss2.length d1, .int .u32 y2, .slice W3 kn2.length d3] 97)).alloc (.cells #[.int .i64 2, .int .i64 0, .slice none 0 0, .int .u64 x2, .slice W1 ss2.length d1, .int .u32 y2, .slice W3 kn2.length d3] 152)) (.cells #[.slice Ah 512 ch, .slice Ac 512 cc, .bool true, .int .u64 x2, .slice W1 ss2.length d1, .int .u32 y2, .slice W3 kn2.length d3] 97)
  rw [World.size_alloc, World.size_alloc] at hz
  go_enter Try.func146, Try.ntmps146
  go_wp2_with fail
  generalize (((w.alloc (.cells #[.slice Ah 512 ch, .slice Ac 512 cc, .bool true, .int .u64 x2, .slice W1 ss2.length d1, .int .u32 y2, .slice W3 kn2.length d3] 97)).alloc (.cells #[.int .i64 2, .int .i64 0, .slice none 0 0, .int .u64 x2, .slice W1 ss2.length d1, .int .u32 y2, .slice W3 kn2.length d3] 152)).alloc (.cells #[.slice Ah 512 ch, .slice Ac 512 cc, .bool true, .int .u64 x2, .slice W1 ss2.length d1, .int .u32 y2, .slice W3 kn2.length d3] 97)) = W at hbl hz ⊢
  obtain ⟨q0, q1, q2, q3, q4, q5, q6⟩ := cells7 hz
  refine bodyPost_ret (v := .agg #[.slice Ah 512 ch, .slice Ac 512 cc, .bool true, .int .u64 x2, .slice W1 ss2.length d1, .int .u32 y2, .slice W3 kn2.length d3]) (by simp [results, Try.results146, go_sem, q0, q1, q2, q3, q4, q5, q6]) rfl ?_
  have hL := Leaves.of_below hbl hb
  exact ⟨_, rfl, ⟨_, _, has, _, _, rows, true, x2, W1, d1, ss2, y2, W3, d3, kn2, rfl, h1, h2, h3, h4, h5.step hL, h6.step hL, h7, fun j hj l hl => by
    obtain ⟨B', c', e1, e2, e3, e4⟩ := h8 j hj l hl
    exact ⟨B', c', e1, e2, e3, e4.step hL⟩, g9.step hL, g10⟩, hbl⟩
set_option maxRecDepth 100000 in
set_option maxHeartbeats 4000000 in
theorem done_clear (w : World) (b : Nat) (hb : b ≤ w.heap.size) (A : Hist × List Int) (Ah : Option Addr) (ch : Nat) (has : List Bool) (Ac : Option Addr) (cc : Nat) (rows : List (Option Addr × Nat × Nat)) (isb : Bool) (x : Int) (V1 : Option Addr) (c1 : Nat) (ss : List Int) (y : Int) (V3 : Option Addr) (c3 : Nat) (kn : List Int)
    (h1 : 512 ≤ ch) (h2 : 512 ≤ cc) (h3 : has.length = 512) (h4 : rows.length = 512) (h5 : Firm b w (fun W => Kd.C Kd.bool W Ah has.length has)) (h6 : Firm b w (fun W => Kd.C SL W Ac rows.length rows))
    (h7 : ∀ i : Nat, i < 512 → has.getD i false = (getA A.1 (i : Int)).isSome) (h8 : ∀ i : Nat, i < 512 → ∀ l, getA A.1 (i : Int) = some l → ∃ B c, rows.getD i (none, 0, 0) = (B, l.length, c) ∧ l.length ≤ c ∧ Bytes l ∧ Firm b w (fun W => Kd.C (Kd.int .u8) W B l.length l))
    (h9 : TokR b w V1 c1 ss V3 c3 kn) (h10 : TokIs isb x ss y kn A.2)
     :
    Calls Try.prog 146 #[.agg #[.slice Ah 512 ch, .slice Ac 512 cc, .bool isb, .int .u64 x, .slice V1 ss.length c1, .int .u32 y, .slice V3 kn.length c3], .agg #[.int .i64 3, .int .i64 0, .slice none 0 0, .int .u64 0, .slice none 0 0, .int .u32 0, .slice none 0 0]] w fun e w' => ∃ vs' : List Value, e = .returned (.agg vs'.toArray) ∧ RState b w' vs' (app (.clear) A) ∧ Below w.heap.size w w' := by
  have hbz : Below w.heap.size w (((w.alloc (.cells #[.slice Ah 512 ch, .slice Ac 512 cc, .bool isb, .int .u64 x, .slice V1 ss.length c1, .int .u32 y, .slice V3 kn.length c3] 97)).alloc (.cells #[.int .i64 3, .int .i64 0, .slice none 0 0, .int .u64 0, .slice none 0 0, .int .u32 0, .slice none 0 0] 152)).alloc (.cells #[.slice none 0 0, .slice none 0 0, .bool false, .int .u64 0, .slice none 0 0, .int .u32 0, .slice none 0 0] 97)) := below_alloc (below_alloc (below_alloc (Below.refl w.heap.size w) (.cells #[.slice Ah 512 ch, .slice Ac 512 cc, .bool isb, .int .u64 x, .slice V1 ss.length c1, .int .u32 y, .slice V3 kn.length c3] 97)) (.cells #[.int .i64 3, .int .i64 0, .slice none 0 0, .int .u64 0, .slice none 0 0, .int .u32 0, .slice none 0 0] 152)) (.cells #[.slice none 0 0, .slice none 0 0, .bool false, .int .u64 0, .slice none 0 0, .int .u32 0, .slice none 0 0] 97)
  have hS := blk_alloc (blk_alloc (blk_new w (.cells #[.slice Ah 512 ch, .slice Ac 512 cc, .bool isb, .int .u64 x, .slice V1 ss.length c1, .int .u32 y, .slice V3 kn.length c3] 97)) (.cells #[.int .i64 3, .int .i64 0, .slice none 0 0, .int .u64 0, .slice none 0 0, .int .u32 0, .slice none 0 0] 152)) (.cells #[.slice none 0 0, .slice none 0 0, .bool false, .int .u64 0, .slice none 0 0, .int .u32 0, .slice none 0 0] 97)
  have hX := blk_alloc (blk_new (w.alloc (.cells #[.slice Ah 512 ch, .slice Ac 512 cc, .bool isb, .int .u64 x, .slice V1 ss.length c1, .int .u32 y, .slice V3 kn.length c3] 97)) (.cells #[.int .i64 3, .int .i64 0, .slice none 0 0, .int .u64 0, .slice none 0 0, .int .u32 0, .slice none 0 0] 152)) (.cells #[.slice none 0 0, .slice none 0 0, .bool false, .int .u64 0, .slice none 0 0, .int .u32 0, .slice none 0 0] 97)
  have hR := blk_new ((w.alloc (.cells #[.slice Ah 512 ch, .slice Ac 512 cc, .bool isb, .int .u64 x, .slice V1 ss.length c1, .int .u32 y, .slice V3 kn.length c3] 97)).alloc (.cells #[.int .i64 3, .int .i64 0, .slice none 0 0, .int .u64 0, .slice none 0 0, .int .u32 0, .slice none 0 0] 152)) (.cells #[.slice none 0 0, .slice none 0 0, .bool false, .int .u64 0, .slice none 0 0, .int .u32 0, .slice none 0 0] 97)
  rw [World.size_alloc] at hX
  rw [World.size_alloc, World.size_alloc] at hR
  go_enter Try.func146, Try.ntmps146
  go_wp2_with fail
  generalize (((w.alloc (.cells #[.slice Ah 512 ch, .slice Ac 512 cc, .bool isb, .int .u64 x, .slice V1 ss.length c1, .int .u32 y, .slice V3 kn.length c3] 97)).alloc (.cells #[.int .i64 3, .int .i64 0, .slice none 0 0, .int .u64 0, .slice none 0 0, .int .u32 0, .slice none 0 0] 152)).alloc (.cells #[.slice none 0 0, .slice none 0 0, .bool false, .int .u64 0, .slice none 0 0, .int .u32 0, .slice none 0 0] 97)) = wz at hbz hS hX hR ⊢
  refine (ref_none wz).mono ?_
  rintro e w1 ⟨a0, a1, a2, a3, a4, a5, a6, rfl, hn, hb1⟩
  obtain ⟨Bh, ch2, Bc, cc2, isb2, x2, W1, m1, d1, y2, W3, m3, d3, e⟩ := (hn 0).shape
  cases e
  have HN := Aside0.mk hn
  have hbw := below_step hbz hb1
  have hr1 := blk_below hR hb1
  obtain ⟨z0, z1, z2, z3, z4, z5, z6⟩ := cells7 hr1
  obtain ⟨zf0, zf1, zf2, zf3, zf4, zf5, zf6⟩ := frozen7 hr1
  have HR1 := Aside0.mk hr1
  have HBW := Aside0.mk hbw
  clear hn hbw hr1 hS hX hR hb1 hbz
  go_wp2_with fail
  have hs := setAll_spec HR1.out [.slice Bh 512 ch2, .slice Bc 512 cc2, .bool isb2, .int .u64 x2, .slice W1 m1 d1, .int .u32 y2, .slice W3 m3 d3] rfl
  rw [setAll7]
  generalize setAll (w1) (w.heap.size + 1 + 1) 0 [.slice Bh 512 ch2, .slice Bc 512 cc2, .bool isb2, .int .u64 x2, .slice W1 m1 d1, .int .u32 y2, .slice W3 m3 d3] = WZ at hs ⊢
  have hbl : Below w.heap.size w WZ := hs.2.2 _ _ (by omega) HBW.out
  have hz := hs.1
  have hL : ∀ k, k ≠ w.heap.size + 1 + 1 → _ := hs.2.1
  clear hs
  obtain ⟨q0, q1, q2, q3, q4, q5, q6⟩ := cells7 hz
  refine bodyPost_ret (v := .agg #[.slice Bh 512 ch2, .slice Bc 512 cc2, .bool isb2, .int .u64 x2, .slice W1 m1 d1, .int .u32 y2, .slice W3 m3 d3]) (by simp [results, Try.results146, go_sem, q0, q1, q2, q3, q4, q5, q6]) rfl ?_
  exact ⟨_, rfl, (HN.out b).step (leaves_all HR1.out (.inr rfl) (by omega) hL), hbl⟩
theorem ref_done (w : World) (b : Nat) (hb : b ≤ w.heap.size) (vs : List Value) (A : Hist × List Int) (h : RState b w vs A) (cs : List Value) (s : Step) (hs : RStep b w cs s) :
    Calls Try.prog 146 #[.agg vs.toArray, .agg cs.toArray] w fun e w' => ∃ vs' : List Value, e = .returned (.agg vs'.toArray) ∧ RState b w' vs' (app s A) ∧ Below w.heap.size w w' := by
  obtain ⟨Ah, ch, has, Ac, cc, rows, isb, x, V1, c1, ss, y, V3, c3, kn, rfl, h1, h2, h3, h4, h5, h6, h7, h8, h9, h10⟩ := h
  cases s with
  | put i xs =>
    obtain ⟨B, c, rfl, g1, g2, g3, g4⟩ := hs
    exact done_put w b hb A Ah ch has Ac cc rows isb x V1 c1 ss y V3 c3 kn h1 h2 h3 h4 h5 h6 h7 h8 h9 h10 i xs B c g3 g1 g2 g4
  | save E =>
    obtain ⟨x2, W1, d1, ss2, y2, W3, d3, kn2, rfl, g1, g2⟩ := hs
    exact done_save w b hb A Ah ch has Ac cc rows isb x V1 c1 ss y V3 c3 kn h1 h2 h3 h4 h5 h6 h7 h8 h9 h10 x2 W1 d1 ss2 y2 W3 d3 kn2 E g1 g2
  | clear =>
    obtain rfl := hs
    exact done_clear w b hb A Ah ch has Ac cc rows isb x V1 c1 ss y V3 c3 kn h1 h2 h3 h4 h5 h6 h7 h8 h9 h10
theorem setAll_mid (g : Nat) (t : TypeId) (tl : List Value) : ∀ (vs : List Value) (j : Nat) (w : World) (pre post : List Value), pre.length = j → post.length = vs.length → w.heap[g]? = some (.cells (pre ++ post ++ tl).toArray t) →
    (setAll w g j vs).heap[g]? = some (.cells (pre ++ vs ++ tl).toArray t) ∧ (∀ k, k ≠ g → (setAll w g j vs).heap[k]? = w.heap[k]?) ∧ (∀ b w0, b ≤ g → Below b w0 w → Below b w0 (setAll w g j vs))
  | [], j, w, pre, post, h1, h2, h => by
    obtain rfl : post = [] := List.eq_nil_of_length_eq_zero h2
    exact ⟨h, fun _ _ => rfl, fun _ _ _ q => q⟩
  | v :: vs, j, w, pre, post, h1, h2, h => by
    obtain ⟨p, post, rfl⟩ : ∃ p q, post = p :: q := by
      cases post with
      | nil => simp at h2
      | cons p q => exact ⟨p, q, rfl⟩
    have e : (pre ++ p :: post ++ tl).toArray.setIfInBounds j v = (pre ++ [v] ++ post ++ tl).toArray := by
      subst h1
      simp
    have hh : (w.setCell ⟨g, j, none⟩ v).heap[g]? = some (.cells (pre ++ [v] ++ post ++ tl).toArray t) := blk_put h j v e
    obtain ⟨q1, q2, q3⟩ := setAll_mid g t tl vs (j + 1) (w.setCell ⟨g, j, none⟩ v) (pre ++ [v]) post (by simp [h1]) (by simpa using h2) hh
    refine ⟨by rw [setAll]; simpa using q1, fun k hk => by rw [setAll]; exact (q2 k hk).trans (heap_set v hk), fun b w0 hb hB => by rw [setAll]; exact q3 b w0 hb (hB.setCell hb v)⟩
end Go.Proofs.Ytliohoalackhiaa.T
