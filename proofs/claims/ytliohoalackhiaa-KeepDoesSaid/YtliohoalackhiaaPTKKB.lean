/- Save and Token of a store. -/
/- What a store's calls leave as it was, told of any fact of memory. -/
/- The document's store in memory: its rows, told so that they stay. -/
/- The document's store: none, New, Flush. -/
/- The document's store: New, Flush. -/
/- The document's store: Get, Held. -/
import Derived.Test.YtliohoalackhiaaPTKKA
import Derived.Deep.RegionWith
import Derived.Test.YtliohoalackhiaaPTx14
import Derived.Test.YtliohoalackhiaaPTgDecode
import Derived.Test.YtliohoalackhiaaPTKKA
import Derived.Test.YtliohoalackhiaaPTTTok
import Derived.Test.YtliohoalackhiaaPTBitsK
namespace Go.Proofs.Ytliohoalackhiaa.T
open Go.ChangeMaps hiding rd
open Go.RowKit Go.Maps Go.Proofs.YtliohoalackhiaaW.PrintWords Go.Proofs.YtliohoalackhiaaW.PrintLast Go.Proofs.YtliohoalackhiaaW.PrintMore Go.Proofs.Ytliohoalackhiaa.Num
set_option linter.unusedVariables false
set_option linter.unusedSimpArgs false
set_option maxRecDepth 100000 in
set_option maxHeartbeats 4000000 in
theorem keep_save_ok (w : World) (base g m1 m2 : Nat) (lo : Value) (A1 A2 : Hist × List Int) (steps : List Step) (h : Sto w base g m1 m2 lo A1 A2 steps) (hbase : base ≤ w.heap.size) (hn : A2.1.length < 1599400000000) (hs : steps.length < 1599400000000)
    (x : Int) (V1 : Option Addr) (c1 : Nat) (ss : List Int) (y : Int) (V3 : Option Addr) (c3 : Nat) (kn : List Int) (hr1 : Kd.C (Kd.int .i64) w V1 ss.length ss) (hc1 : ss.length ≤ c1) (hr3 : Kd.C (Kd.int .u8) w V3 kn.length kn) (hc3 : kn.length ≤ c3)
    (k : Nat) (E : List Int) (hE : token_Encode.f k x ss y kn = some (E, 0)) :
    Calls Try.prog 49 #[.pointer (some ⟨g, 0, none⟩), .agg #[.int .u64 x, .slice V1 ss.length c1, .int .u32 y, .slice V3 kn.length c3]] w fun e w' => e = .returned (.bool true) ∧ ∃ m2' lo', Sto w' base g m1 m2' lo' A1 (A2.1, E) (steps ++ [.save E]) ∧ Mv w w' (Own g m1 m2 lo) ∧ (∀ k, Own g m1 m2' lo' k → Own g m1 m2 lo k ∨ w.heap.size ≤ k) := by
  have HS := Aside0.mk h
  have HR1 := Aside0.mk hr1
  have HR3 := Aside0.mk hr3
  clear h hr1 hr3
  go_enter Try.func49, Try.ntmps49
  go_wp2_with fail
  have hb1 := below_alloc (Below.refl w.heap.size w) (.cells #[.int .u64 x, .slice V1 ss.length c1, .int .u32 y, .slice V3 kn.length c3] 66)
  generalize w.alloc (.cells #[.int .u64 x, .slice V1 ss.length c1, .int .u32 y, .slice V3 kn.length c3] 66) = wa at hb1 ⊢
  refine (token_Encode.calls k x V1 c1 ss y V3 c3 kn E 0 wa (Kd.C_below HR1.out hb1) hc1 (Kd.C_below HR3.out hb1) hc3 hE).mono ?_
  rintro e wb ⟨v0, rfl, hR, hb2⟩
  obtain ⟨A0, c0, e0⟩ := Kd.R_slice hR
  subst e0
  have HR := Aside0.mk hR
  have HB := Aside0.mk (below_step hb1 hb2)
  clear hR hb1 hb2
  go_wp2_with fail
  have hb3 := below_alloc (Below.refl wb.heap.size wb) (.cells #[.slice A0 E.length c0] 22)
  have hX := blk_new wb (.cells #[.slice A0 E.length c0] 22)
  have hBx := below_step HB.out hb3
  refine (keep_do _ base g m1 m2 lo A1 A2 steps (HS.out.below hBx) (Nat.le_trans hbase hBx.size) _ (.save E) ⟨_, _, rfl, hX, Rd.of_R (Kd.R_below HR.out hb3)⟩ hn hs).mono ?_
  rintro e we ⟨⟨rv, rfl⟩, m2', lo', hS, hV, hO⟩
  go_wp2
  go_ret
  exact ⟨rfl, m2', lo', hS, (Mv.of_below hBx _).trans hV (fun k q => .inl q), fun k q => (hO k q).imp_right (Nat.le_trans hBx.size)⟩
set_option maxRecDepth 100000 in
set_option maxHeartbeats 4000000 in
theorem keep_save_no (w : World) (g : Nat)
    (x : Int) (V1 : Option Addr) (c1 : Nat) (ss : List Int) (y : Int) (V3 : Option Addr) (c3 : Nat) (kn : List Int) (hr1 : Kd.C (Kd.int .i64) w V1 ss.length ss) (hc1 : ss.length ≤ c1) (hr3 : Kd.C (Kd.int .u8) w V3 kn.length kn) (hc3 : kn.length ≤ c3)
    (k : Nat) (E : List Int) (er : Int) (hE : token_Encode.f k x ss y kn = some (E, er)) (her : er ≠ 0) :
    Calls Try.prog 49 #[.pointer (some ⟨g, 0, none⟩), .agg #[.int .u64 x, .slice V1 ss.length c1, .int .u32 y, .slice V3 kn.length c3]] w fun e w' => e = .returned (.bool false) ∧ Below w.heap.size w w' := by
  have HR1 := Aside0.mk hr1
  have HR3 := Aside0.mk hr3
  clear hr1 hr3
  go_enter Try.func49, Try.ntmps49
  go_wp2_with fail
  have hb1 := below_alloc (Below.refl w.heap.size w) (.cells #[.int .u64 x, .slice V1 ss.length c1, .int .u32 y, .slice V3 kn.length c3] 66)
  generalize w.alloc (.cells #[.int .u64 x, .slice V1 ss.length c1, .int .u32 y, .slice V3 kn.length c3] 66) = wa at hb1 ⊢
  refine (token_Encode.calls k x V1 c1 ss y V3 c3 kn E er wa (Kd.C_below HR1.out hb1) hc1 (Kd.C_below HR3.out hb1) hc3 hE).mono ?_
  rintro e wb ⟨v0, rfl, hR, hb2⟩
  obtain ⟨A0, c0, e0⟩ := Kd.R_slice hR
  subst e0
  have HB := Aside0.mk (below_step hb1 hb2)
  clear hR hb1 hb2
  go_wp2_with fail
  go_ret
  exact ⟨rfl, below_alloc HB.out _⟩
set_option maxRecDepth 100000 in
set_option maxHeartbeats 4000000 in
theorem keep_token (w : World) (base g m1 m2 : Nat) (lo : Value) (A1 A2 : Hist × List Int) (steps : List Step) (h : Sto w base g m1 m2 lo A1 A2 steps)
    (k : Nat) (r1 : Int) (r2 : List Int) (r3 : Int) (r4 : List Int) (r5 : Int) (hD : token_Decode.f k A2.2 = some (r1, r2, r3, r4, r5)) :
    Calls Try.prog 50 #[.pointer (some ⟨g, 0, none⟩)] w fun e w' => ∃ v1 v3, e = .returned (.tuple #[.agg #[.int .u64 r1, v1, .int .u32 r3, v3], .bool (decide (r5 = 0))]) ∧ Kd.R (Kd.int .i64) 3 w' w.heap.size (fun _ => True) v1 r2 ∧ Kd.R (Kd.int .u8) 5 w' w.heap.size (fun _ => True) v3 r4 ∧ Below w.heap.size w w' := by
  obtain ⟨⟨t1, t2, hgc, q1, q2⟩, h1, h2, ne, bg, b1, b2, hl⟩ := h
  obtain ⟨A, c, e, hc, hC⟩ := q2.reads
  subst e
  have HC := Aside0.mk hC
  have d3 : w.cell? ⟨g, 3, none⟩ = some (.slice A A2.2.length c) := (blk_cell hgc 3).trans rfl
  have HG := Aside0.mk hgc
  clear hgc q1 q2 h1 h2 ne bg b1 b2 hl hC
  go_enter Try.func50, Try.ntmps50
  have hb1 := below_alloc (Below.refl w.heap.size w) (.cells #[.int .u64 0, .slice none 0 0, .int .u32 0, .slice none 0 0] 66)
  have d3' : (w.alloc (.cells #[.int .u64 0, .slice none 0 0, .int .u32 0, .slice none 0 0] 66)).cell? ⟨g, 3, none⟩ = some (.slice A A2.2.length c) := (hb1.cell (World.block_lt_of_cell? _ _ d3)).trans d3
  have HB := Aside0.mk hb1
  go_wp2_with fail
  refine (token_Decode.calls k A c A2.2 r1 r2 r3 r4 r5 _ (Kd.C_below HC.out HB.out) hc hD).mono ?_
  rintro e wb ⟨v1, v3, rfl, hR1, hR3, hb2⟩
  obtain ⟨B1, c1, e1⟩ := Kd.R_slice hR1
  obtain ⟨B3, c3, e3⟩ := Kd.R_slice hR3
  subst e1 e3
  have hT := blk_alloc (blk_below (blk_new w (.cells #[.int .u64 0, .slice none 0 0, .int .u32 0, .slice none 0 0] 66)) hb2) (.cells #[.int .u64 r1, .slice B1 r2.length c1, .int .u32 r3, .slice B3 r4.length c3] 66)
  have e0 : (wb.alloc (.cells #[.int .u64 r1, .slice B1 r2.length c1, .int .u32 r3, .slice B3 r4.length c3] 66)).cell? ⟨w.heap.size, 0, none⟩ = some (.int .u64 0) := (blk_cell hT 0).trans rfl
  have f0 : (wb.alloc (.cells #[.int .u64 r1, .slice B1 r2.length c1, .int .u32 r3, .slice B3 r4.length c3] 66)).frozen? ⟨w.heap.size, 0, none⟩ = false := blk_frozen hT 0
  have e1 : (wb.alloc (.cells #[.int .u64 r1, .slice B1 r2.length c1, .int .u32 r3, .slice B3 r4.length c3] 66)).cell? ⟨w.heap.size, 1, none⟩ = some (.slice none 0 0) := (blk_cell hT 1).trans rfl
  have f1 : (wb.alloc (.cells #[.int .u64 r1, .slice B1 r2.length c1, .int .u32 r3, .slice B3 r4.length c3] 66)).frozen? ⟨w.heap.size, 1, none⟩ = false := blk_frozen hT 1
  have e2 : (wb.alloc (.cells #[.int .u64 r1, .slice B1 r2.length c1, .int .u32 r3, .slice B3 r4.length c3] 66)).cell? ⟨w.heap.size, 2, none⟩ = some (.int .u32 0) := (blk_cell hT 2).trans rfl
  have f2 : (wb.alloc (.cells #[.int .u64 r1, .slice B1 r2.length c1, .int .u32 r3, .slice B3 r4.length c3] 66)).frozen? ⟨w.heap.size, 2, none⟩ = false := blk_frozen hT 2
  have e3 : (wb.alloc (.cells #[.int .u64 r1, .slice B1 r2.length c1, .int .u32 r3, .slice B3 r4.length c3] 66)).cell? ⟨w.heap.size, 3, none⟩ = some (.slice none 0 0) := (blk_cell hT 3).trans rfl
  have f3 : (wb.alloc (.cells #[.int .u64 r1, .slice B1 r2.length c1, .int .u32 r3, .slice B3 r4.length c3] 66)).frozen? ⟨w.heap.size, 3, none⟩ = false := blk_frozen hT 3
  have HT := Aside0.mk hT
  have HR1 := Aside0.mk (Kd.R_below hR1 (below_alloc (Below.refl wb.heap.size wb) (.cells #[.int .u64 r1, .slice B1 r2.length c1, .int .u32 r3, .slice B3 r4.length c3] 66)))
  have HR3 := Aside0.mk (Kd.R_below hR3 (below_alloc (Below.refl wb.heap.size wb) (.cells #[.int .u64 r1, .slice B1 r2.length c1, .int .u32 r3, .slice B3 r4.length c3] 66)))
  have HB2 := Aside0.mk (below_alloc (below_step HB.out hb2) (.cells #[.int .u64 r1, .slice B1 r2.length c1, .int .u32 r3, .slice B3 r4.length c3] 66))
  have hsz := hb1.size
  have hsz2 : w.heap.size < (w.alloc (.cells #[.int .u64 0, .slice none 0 0, .int .u32 0, .slice none 0 0] 66)).heap.size := by rw [World.size_alloc]; omega
  clear hR1 hR3 hT hb2 hb1 d3 d3'
  go_wp2_with fail
  have hT := HT.out
  have p0 := blk_put hT 0 (.int .u64 r1) rfl
  have q0 := Kd.R_set HR1.out hT (by decide) 0 (.int .u64 r1)
  have u0 := Kd.R_set HR3.out hT (by decide) 0 (.int .u64 r1)
  have p1 := blk_put p0 1 (.slice B1 r2.length c1) rfl
  have q1 := Kd.R_set q0 p0 (by decide) 1 (.slice B1 r2.length c1)
  have u1 := Kd.R_set u0 p0 (by decide) 1 (.slice B1 r2.length c1)
  have p2 := blk_put p1 2 (.int .u32 r3) rfl
  have q2 := Kd.R_set q1 p1 (by decide) 2 (.int .u32 r3)
  have u2 := Kd.R_set u1 p1 (by decide) 2 (.int .u32 r3)
  have p3 := blk_put p2 3 (.slice B3 r4.length c3) rfl
  have q3 := Kd.R_set q2 p2 (by decide) 3 (.slice B3 r4.length c3)
  have u3 := Kd.R_set u2 p2 (by decide) 3 (.slice B3 r4.length c3)
  have hBf := ((((HB2.out.setCell (p := ⟨w.heap.size, 0, none⟩) (Nat.le_refl _) (.int .u64 r1)).setCell (p := ⟨w.heap.size, 1, none⟩) (Nat.le_refl _) (.slice B1 r2.length c1)).setCell (p := ⟨w.heap.size, 2, none⟩) (Nat.le_refl _) (.int .u32 r3)).setCell (p := ⟨w.heap.size, 3, none⟩) (Nat.le_refl _) (.slice B3 r4.length c3))
  generalize (((((wb.alloc (.cells #[.int .u64 r1, .slice B1 r2.length c1, .int .u32 r3, .slice B3 r4.length c3] 66)).setCell ⟨w.heap.size, 0, none⟩ (.int .u64 r1)).setCell ⟨w.heap.size, 1, none⟩ (.slice B1 r2.length c1)).setCell ⟨w.heap.size, 2, none⟩ (.int .u32 r3)).setCell ⟨w.heap.size, 3, none⟩ (.slice B3 r4.length c3)) = W4 at p3 q3 u3 hBf ⊢
  have c0_ : W4.cell? ⟨w.heap.size, 0, none⟩ = some (.int .u64 r1) := (blk_cell p3 0).trans rfl
  have c1_ : W4.cell? ⟨w.heap.size, 1, none⟩ = some (.slice B1 r2.length c1) := (blk_cell p3 1).trans rfl
  have c2_ : W4.cell? ⟨w.heap.size, 2, none⟩ = some (.int .u32 r3) := (blk_cell p3 2).trans rfl
  have c3_ : W4.cell? ⟨w.heap.size, 3, none⟩ = some (.slice B3 r4.length c3) := (blk_cell p3 3).trans rfl
  refine bodyPost_ret (v := .tuple #[.agg #[.int .u64 r1, .slice B1 r2.length c1, .int .u32 r3, .slice B3 r4.length c3], .bool (r5 == 0)]) (by simp [results, Try.results50, go_sem, c0_, c1_, c2_, c3_]) rfl ?_
  exact ⟨_, _, by rfl, Kd.R_lower q3 hsz, Kd.R_lower u3 hsz, hBf⟩
end Go.Proofs.Ytliohoalackhiaa.T
namespace Go.Proofs.Ytliohoalackhiaa.T
open Go.ChangeMaps hiding rd
open Go.RowKit Go.Maps Go.Proofs.YtliohoalackhiaaW.PrintWords Go.Proofs.YtliohoalackhiaaW.PrintLast Go.Proofs.YtliohoalackhiaaW.PrintMore Go.Proofs.Ytliohoalackhiaa.Num
set_option linter.unusedVariables false
set_option linter.unusedSimpArgs false
def Calm (w : World) (k : Nat) : Prop := ∃ cs t fr, w.heap[k]? = some (.cells cs t fr) ∧ t ≠ 112 ∧ t ≠ 119
theorem Calm.lt {w : World} {k : Nat} (h : Calm w k) : k < w.heap.size := by
  obtain ⟨cs, t, fr, h, _⟩ := h
  exact blk_lt h
theorem Calm.step {w w' : World} {k : Nat} (h : Calm w k) (hm : w'.heap[k]? = w.heap[k]?) : Calm w' k := by
  obtain ⟨cs, t, fr, h, ht⟩ := h
  exact ⟨cs, t, fr, hm.trans h, ht⟩
theorem Sto.calm {w : World} {base g m1 m2 : Nat} {lo : Value} {A1 A2 : Hist × List Int} {steps : List Step} (h : Sto w base g m1 m2 lo A1 A2 steps) {k : Nat} (hk : Own g m1 m2 lo k) : ¬ Calm w k := by
  rintro ⟨cs, t, fr, hc, n1, n2⟩
  obtain ⟨⟨t1, t2, hg, r1, r2⟩, h1, h2, ne, bg, b1, b2, fs, hR, hl⟩ := h
  rcases hk with rfl | rfl | rfl | hk
  · rw [hg] at hc
    injection hc with hc
    injection hc with _ e _
    exact n1 e.symm
  · obtain ⟨_, ⟨es, clock, hb, _⟩, _⟩ := h1
    rw [hb] at hc
    cases hc
  · obtain ⟨_, ⟨es, clock, hb, _⟩, _⟩ := h2
    rw [hb] at hc
    cases hc
  · obtain ⟨cells, hc2⟩ := Kd.R_typed hR k hk
    rw [hc2] at hc
    injection hc with hc
    injection hc with _ e _
    exact n2 e.symm
def Keeps (b : Nat) (w w' : World) : Prop := ∀ k, k < b ∨ Calm w k → w'.heap[k]? = w.heap[k]?
theorem Keeps.of_below {b : Nat} {w w' : World} (h : Below w.heap.size w w') (hb : b ≤ w.heap.size) : Keeps b w w' := fun k hk => h.block k (hk.elim (fun q => by omega) (fun q => q.lt))
theorem Keeps.of_mv {b : Nat} {w w' : World} {g m1 m2 : Nat} {lo : Value} {A1 A2 : Hist × List Int} {steps : List Step} (mv : Mv w w' (Own g m1 m2 lo)) (h : Sto w b g m1 m2 lo A1 A2 steps) (hb : b ≤ w.heap.size) : Keeps b w w' := fun k hk =>
  mv.k.2 k (hk.elim (fun q => by omega) (fun q => q.lt)) (fun q => hk.elim (fun hk => by have := h.base q; omega) (fun hk => h.calm q hk))
theorem Keeps.trans {b : Nat} {w w1 w2 : World} (h : Keeps b w w1) (h2 : Keeps b w1 w2) : Keeps b w w2 := fun k hk => (h2 k (hk.imp_right (fun q => q.step (h k hk)))).trans (h k hk)
def Stay (b : Nat) (w : World) (P : World → Prop) : Prop := ∀ W, Keeps b w W → P W
theorem Stay.now {b : Nat} {w : World} {P : World → Prop} (h : Stay b w P) : P w := h w (fun _ _ => rfl)
theorem Stay.step {b : Nat} {w w' : World} {P : World → Prop} (h : Stay b w P) (hk : Keeps b w w') : Stay b w' P := fun W hW => h W (hk.trans hW)
theorem Stay.imp {b : Nat} {w : World} {P Q : World → Prop} (h : Stay b w P) (hi : ∀ W, P W → Q W) : Stay b w Q := fun W hW => hi W (h W hW)
theorem Stay.and {b : Nat} {w : World} {P Q : World → Prop} (h : Stay b w P) (h2 : Stay b w Q) : Stay b w (fun W => P W ∧ Q W) := fun W hW => ⟨h W hW, h2 W hW⟩
end Go.Proofs.Ytliohoalackhiaa.T
namespace Go.Proofs.Ytliohoalackhiaa.T
open Go.ChangeMaps hiding rd
open Go.RowKit Go.Maps Go.Proofs.YtliohoalackhiaaW.PrintWords Go.Proofs.YtliohoalackhiaaW.PrintLast Go.Proofs.YtliohoalackhiaaW.PrintMore Go.Proofs.Ytliohoalackhiaa.Num Go.Proofs.Ytliohoalackhiaa.CrcN
set_option linter.unusedVariables false
set_option linter.unusedSimpArgs false
def Mild (w : World) (k : Nat) : Prop := ∃ cs t fr, w.heap[k]? = some (.cells cs t fr) ∧ t ≠ 112 ∧ t ≠ 119 ∧ t ≠ 100 ∧ t ≠ 97
theorem Mild.lt {w : World} {k : Nat} (h : Mild w k) : k < w.heap.size := by
  obtain ⟨cs, t, fr, h, _⟩ := h
  exact blk_lt h
theorem Mild.step {w w' : World} {k : Nat} (h : Mild w k) (hm : w'.heap[k]? = w.heap[k]?) : Mild w' k := by
  obtain ⟨cs, t, fr, h, ht⟩ := h
  exact ⟨cs, t, fr, hm.trans h, ht⟩
theorem Sto.mild {w : World} {base g m1 m2 : Nat} {lo : Value} {A1 A2 : Hist × List Int} {steps : List Step} (h : Sto w base g m1 m2 lo A1 A2 steps) {k : Nat} (hk : Own g m1 m2 lo k) : ¬ Mild w k := by
  rintro ⟨cs, t, fr, hc, n1, n2, _⟩
  obtain ⟨⟨t1, t2, hg, r1, r2⟩, h1, h2, ne, bg, b1, b2, fs, hR, hl⟩ := h
  rcases hk with rfl | rfl | rfl | hk
  · rw [hg] at hc
    injection hc with hc
    injection hc with _ e _
    exact n1 e.symm
  · obtain ⟨_, ⟨es, clock, hb, _⟩, _⟩ := h1
    rw [hb] at hc
    cases hc
  · obtain ⟨_, ⟨es, clock, hb, _⟩, _⟩ := h2
    rw [hb] at hc
    cases hc
  · obtain ⟨cells, hc2⟩ := Kd.R_typed hR k hk
    rw [hc2] at hc
    injection hc with hc
    injection hc with _ e _
    exact n2 e.symm
def Leaves (b : Nat) (w w' : World) : Prop := ∀ k, k < b ∨ Mild w k → w'.heap[k]? = w.heap[k]?
theorem Leaves.of_below {b : Nat} {w w' : World} (h : Below w.heap.size w w') (hb : b ≤ w.heap.size) : Leaves b w w' := fun k hk => h.block k (hk.elim (fun q => by omega) (fun q => q.lt))
theorem Leaves.of_mv {b : Nat} {w w' : World} {g m1 m2 : Nat} {lo : Value} {A1 A2 : Hist × List Int} {steps : List Step} (mv : Mv w w' (Own g m1 m2 lo)) (h : Sto w b g m1 m2 lo A1 A2 steps) (hb : b ≤ w.heap.size) : Leaves b w w' := fun k hk =>
  mv.k.2 k (hk.elim (fun q => by omega) (fun q => q.lt)) (fun q => hk.elim (fun hk => by have := h.base q; omega) (fun hk => h.mild q hk))
theorem Leaves.trans {b : Nat} {w w1 w2 : World} (h : Leaves b w w1) (h2 : Leaves b w1 w2) : Leaves b w w2 := fun k hk => (h2 k (hk.imp_right (fun q => q.step (h k hk)))).trans (h k hk)
def Firm (b : Nat) (w : World) (P : World → Prop) : Prop := ∀ W, Leaves b w W → P W
theorem Firm.now {b : Nat} {w : World} {P : World → Prop} (h : Firm b w P) : P w := h w (fun _ _ => rfl)
theorem Firm.step {b : Nat} {w w' : World} {P : World → Prop} (h : Firm b w P) (hk : Leaves b w w') : Firm b w' P := fun W hW => h W (hk.trans hW)
theorem Firm.imp {b : Nat} {w : World} {P Q : World → Prop} (h : Firm b w P) (hi : ∀ W, P W → Q W) : Firm b w Q := fun W hW => hi W (h W hW)
theorem Firm.and {b : Nat} {w : World} {P Q : World → Prop} (h : Firm b w P) (h2 : Firm b w Q) : Firm b w (fun W => P W ∧ Q W) := fun W hW => ⟨h W hW, h2 W hW⟩
theorem firm_C {α : Type} {d : Kd α} (hd : Kd.Heap d) {w : World} {b : Nat} {A : Option Addr} {n : Nat} {xs : List α} (h : d.C w A n xs) (hb : w.heap.size ≤ b) : Firm b w (fun W => d.C W A n xs) := fun W hW => hd.C (fun k hlt => hW k (.inl (by omega))) h
theorem firm_R {α : Type} {d : Kd α} {e : Nat} {w : World} {b base : Nat} {ok : Nat → Prop} {A : Option Addr} {n c : Nat} {xs : List α} (h : d.R e w base ok (.slice A n c) xs) (he : ∀ q, q ∈ e :: d.E → q ≠ 112 ∧ q ≠ 119 ∧ q ≠ 100 ∧ q ≠ 97) : Firm b w (fun W => d.C W A n xs) := fun W hW =>
  Kd.F_now (Kd.F_step (Kd.R_F (Kd.R_bound h)) (fun k hk _ => hW k (.inr (by
    obtain ⟨_, _, _, q, hq, cells, hc⟩ := hk
    exact ⟨cells, q, _, hc, he q hq⟩))))
theorem Leaves.refl (b : Nat) (w : World) : Leaves b w w := fun _ _ => rfl
theorem leaves_set {b : Nat} {w : World} {g j : Nat} {cs : Array Value} {t : TypeId} {fr : Nat × Nat} (u : Value) (hg : w.heap[g]? = some (.cells cs t fr)) (ht : t = 100 ∨ t = 97) (hb : b ≤ g) : Leaves b w (w.setCell ⟨g, j, none⟩ u) := fun k hk =>
  heap_set u (fun e => by
    subst e
    rcases hk with hk | ⟨cs', t', fr', hc, _, _, n3, n4⟩
    · omega
    · rw [hg] at hc
      injection hc with hc
      injection hc with _ e _
      rcases ht with ht | ht
      · exact n3 (e ▸ ht)
      · exact n4 (e ▸ ht))
def TokIs (isb : Bool) (x : Int) (ss : List Int) (y : Int) (kn : List Int) (E : List Int) : Prop :=
  (isb = false ∧ E = []) ∨ (isb = true ∧ TokOK ss kn ∧ Bytes kn ∧ (0 ≤ x ∧ x ≤ 18446744073709551615) ∧ (0 ≤ y ∧ y ≤ 4294967295) ∧ E = sealed (encL x ss y kn))
def TokR (b : Nat) (w : World) (V1 : Option Addr) (c1 : Nat) (ss : List Int) (V3 : Option Addr) (c3 : Nat) (kn : List Int) : Prop :=
  ss.length ≤ c1 ∧ kn.length ≤ c3 ∧ Firm b w (fun W => Kd.C (Kd.int .i64) W V1 ss.length ss) ∧ Firm b w (fun W => Kd.C (Kd.int .u8) W V3 kn.length kn)
theorem TokR.step {b : Nat} {w w' : World} {V1 : Option Addr} {c1 : Nat} {ss : List Int} {V3 : Option Addr} {c3 : Nat} {kn : List Int} (h : TokR b w V1 c1 ss V3 c3 kn) (hk : Leaves b w w') : TokR b w' V1 c1 ss V3 c3 kn := ⟨h.1, h.2.1, h.2.2.1.step hk, h.2.2.2.step hk⟩
theorem TokR.nil (b : Nat) (w : World) : TokR b w none 0 [] none 0 [] := ⟨Nat.le_refl _, Nat.le_refl _, fun W _ => Kd.C_nil _ _, fun W _ => Kd.C_nil _ _⟩
def slc (p : Option Addr × Nat × Nat) : Value := .slice p.1 p.2.1 p.2.2
abbrev SL : Kd (Option Addr × Nat × Nat) := Kd.scalar slc (fun _ => rfl)
def RState (b : Nat) (w : World) (vs : List Value) (A : Hist × List Int) : Prop :=
  ∃ (Ah : Option Addr) (ch : Nat) (has : List Bool) (Ac : Option Addr) (cc : Nat) (rows : List (Option Addr × Nat × Nat)) (isb : Bool) (x : Int) (V1 : Option Addr) (c1 : Nat) (ss : List Int) (y : Int) (V3 : Option Addr) (c3 : Nat) (kn : List Int),
    vs = [.slice Ah 512 ch, .slice Ac 512 cc, .bool isb, .int .u64 x, .slice V1 ss.length c1, .int .u32 y, .slice V3 kn.length c3] ∧
    512 ≤ ch ∧ 512 ≤ cc ∧ has.length = 512 ∧ rows.length = 512 ∧ Firm b w (fun W => Kd.C Kd.bool W Ah has.length has) ∧ Firm b w (fun W => Kd.C SL W Ac rows.length rows) ∧
    (∀ i : Nat, i < 512 → has.getD i false = (getA A.1 (i : Int)).isSome) ∧
    (∀ i : Nat, i < 512 → ∀ l, getA A.1 (i : Int) = some l → ∃ B c, rows.getD i (none, 0, 0) = (B, l.length, c) ∧ l.length ≤ c ∧ Bytes l ∧ Firm b w (fun W => Kd.C (Kd.int .u8) W B l.length l)) ∧
    TokR b w V1 c1 ss V3 c3 kn ∧ TokIs isb x ss y kn A.2
theorem RState.step {b : Nat} {w w' : World} {vs : List Value} {A : Hist × List Int} (h : RState b w vs A) (hk : Leaves b w w') : RState b w' vs A := by
  obtain ⟨Ah, ch, has, Ac, cc, rows, isb, x, V1, c1, ss, y, V3, c3, kn, e, h1, h2, h3, h4, h5, h6, h7, h8, h9, h10⟩ := h
  exact ⟨Ah, ch, has, Ac, cc, rows, isb, x, V1, c1, ss, y, V3, c3, kn, e, h1, h2, h3, h4, h5.step hk, h6.step hk, h7, fun i hi l hl => by
    obtain ⟨B, c, e1, e2, e3, e4⟩ := h8 i hi l hl
    exact ⟨B, c, e1, e2, e3, e4.step hk⟩, h9.step hk, h10⟩
def RStep (b : Nat) (w : World) (cs : List Value) : Step → Prop
  | .put i xs => ∃ B c, cs = [.int .i64 1, .int .i64 i, .slice B xs.length c, .int .u64 0, .slice none 0 0, .int .u32 0, .slice none 0 0] ∧ xs.length ≤ c ∧ Bytes xs ∧ (0 ≤ i ∧ i < 512) ∧ Firm b w (fun W => Kd.C (Kd.int .u8) W B xs.length xs)
  | .save E => ∃ x V1 c1 ss y V3 c3 kn, cs = [.int .i64 2, .int .i64 0, .slice none 0 0, .int .u64 x, .slice V1 ss.length c1, .int .u32 y, .slice V3 kn.length c3] ∧ TokR b w V1 c1 ss V3 c3 kn ∧ TokIs true x ss y kn E
  | .clear => cs = [.int .i64 3, .int .i64 0, .slice none 0 0, .int .u64 0, .slice none 0 0, .int .u32 0, .slice none 0 0]
theorem RStep.step {b : Nat} {w w' : World} {cs : List Value} {s : Step} (h : RStep b w cs s) (hk : Leaves b w w') : RStep b w' cs s := by
  cases s with
  | put i xs =>
    obtain ⟨B, c, e, h1, h2, h3, h4⟩ := h
    exact ⟨B, c, e, h1, h2, h3, h4.step hk⟩
  | save E =>
    obtain ⟨x, V1, c1, ss, y, V3, c3, kn, e, h1, h2⟩ := h
    exact ⟨x, V1, c1, ss, y, V3, c3, kn, e, h1.step hk, h2⟩
  | clear => exact h
def RT (b : Nat) (w : World) (vs : List Value) (A1 A2 : Hist × List Int) (steps : List Step) : Prop :=
  ∃ (a1 a2 : List Value) (L : Option Addr) (n cl : Nat) (rows : List (List Value)), vs = a1 ++ a2 ++ [.slice L n cl] ∧ RState b w a1 A1 ∧ RState b w a2 A2 ∧ n = rows.length ∧ (n ≤ cl ∧ (0 < n → ∃ gL, L = some ⟨gL, 0, none⟩)) ∧ Firm b w (fun W => Kd.C (Kd.raw 7) W L rows.length rows) ∧ All2 (RStep b w) rows steps
theorem RT.step {b : Nat} {w w' : World} {vs : List Value} {A1 A2 : Hist × List Int} {steps : List Step} (h : RT b w vs A1 A2 steps) (hk : Leaves b w w') : RT b w' vs A1 A2 steps := by
  obtain ⟨a1, a2, L, n, cl, rows, e, h1, h2, h3, h4, h5, h6⟩ := h
  exact ⟨a1, a2, L, n, cl, rows, e, h1.step hk, h2.step hk, h3, h4, h5.step hk, forall2_imp (fun _ _ q => q.step hk) h6⟩
theorem RState.seven {b : Nat} {w : World} {vs : List Value} {A : Hist × List Int} (h : RState b w vs A) : ∃ v0 v1 v2 v3 v4 v5 v6, vs = [v0, v1, v2, v3, v4, v5, v6] := by
  obtain ⟨Ah, ch, has, Ac, cc, rows, isb, x, V1, c1, ss, y, V3, c3, kn, e, _⟩ := h
  exact ⟨_, _, _, _, _, _, _, e⟩
end Go.Proofs.Ytliohoalackhiaa.T
namespace Go.Proofs.Ytliohoalackhiaa.T
open Go.ChangeMaps hiding rd
open Go.RowKit Go.Maps Go.Proofs.YtliohoalackhiaaW.PrintWords Go.Proofs.YtliohoalackhiaaW.PrintLast Go.Proofs.YtliohoalackhiaaW.PrintMore Go.Proofs.Ytliohoalackhiaa.Num Go.Proofs.Ytliohoalackhiaa.CrcN
set_option linter.unusedVariables false
set_option linter.unusedSimpArgs false
theorem infoBool : (Try.prog.info? 4).map (fun i => (i.zero, i.size, i.bytes)) = some (some (.bool false), 1, 1) := by kernel_rfl
theorem infoRow : (Try.prog.info? 22).map (fun i => (i.zero, i.size, i.bytes)) = some (some (.slice none 0 0), 1, 24) := by kernel_rfl
theorem made_rep (v : Value) (n : Nat) : madeCells #[v] n = (List.replicate n v).toArray := by
  apply Array.ext
  · simp [madeCells]
  · intro i h1 h2
    simp [madeCells, Nat.mod_one]
theorem sc_lit {α : Type} {enc : α → Value} {h1 : ∀ x, (enc x).oneCell' = true} {w : World} {g : Nat} {t : TypeId} (l : List α) {cs : Array Value} {fr : Nat × Nat} (h : w.heap[g]? = some (.cells cs t fr)) (hcs : cs = (l.map enc).toArray) (hl : l.length ≤ 9223372036854775807) : Kd.C (Kd.scalar enc h1) w (some ⟨g, 0, none⟩) l.length l := by
  subst hcs
  refine ⟨rfl, hl, fun _ => ⟨⟨g, 0, none⟩, rfl, fun j p hj => ⟨[enc p], rfl, rfl, fun i u hu => ?_⟩⟩⟩
  have hi0 : i = 0 := by
    have := (List.getElem?_eq_some_iff.1 hu).1
    simpa using this
  subst hi0
  have hu' : u = enc p := by simpa using hu.symm
  subst hu'
  show w.cell? ((⟨g, 0, none⟩ : Addr).add (j * 1 + 0)) = _
  rw [add_at, Nat.mul_one, Nat.add_zero, Nat.zero_add]
  simp [World.cell?, h, hj]
theorem firm_blk {b : Nat} {w : World} {g : Nat} {cs : Array Value} {t : TypeId} {fr : Nat × Nat} (h : w.heap[g]? = some (.cells cs t fr)) (ht : t ≠ 112 ∧ t ≠ 119 ∧ t ≠ 100 ∧ t ≠ 97) : Firm b w (fun W => W.heap[g]? = some (.cells cs t fr)) := fun W hW => (hW g (.inr ⟨cs, t, fr, h, ht⟩)).trans h
theorem rstate_new {b : Nat} {w : World} {gb gc : Nat} {fr fr' : Nat × Nat} (h1 : w.heap[gb]? = some (.cells (madeCells #[.bool false] 512) 4 fr)) (h2 : w.heap[gc]? = some (.cells (madeCells #[.slice none 0 0] 512) 22 fr')) :
    RState b w [.slice (some ⟨gb, 0, none⟩) 512 512, .slice (some ⟨gc, 0, none⟩) 512 512, .bool false, .int .u64 0, .slice none 0 0, .int .u32 0, .slice none 0 0] ([], []) := by
  refine ⟨_, _, List.replicate 512 false, _, _, List.replicate 512 (none, 0, 0), false, 0, none, 0, [], 0, none, 0, [], rfl, Nat.le_refl _, Nat.le_refl _, List.length_replicate, List.length_replicate, ?_, ?_, ?_, ?_, TokR.nil _ _, .inl ⟨rfl, rfl⟩⟩
  · exact (firm_blk h1 (by decide)).imp fun W h => B_lit _ h (by rw [made_rep, List.map_replicate]) (by rw [List.length_replicate]; omega)
  · exact (firm_blk h2 (by decide)).imp fun W h => sc_lit _ h (by rw [made_rep, List.map_replicate]; rfl) (by rw [List.length_replicate]; omega)
  · intro i hi
    rw [List.getD_eq_getElem?_getD, List.getElem?_replicate]
    split <;> rfl
  · intro i hi l hl
    cases hl
set_option maxRecDepth 100000 in
set_option maxHeartbeats 4000000 in
theorem ref_none (w : World) : Calls Try.prog 115 #[] w fun e w' => ∃ v0 v1 v2 v3 v4 v5 v6 : Value, e = .returned (.agg #[v0, v1, v2, v3, v4, v5, v6]) ∧ (∀ b, RState b w' [v0, v1, v2, v3, v4, v5, v6] ([], [])) ∧ Below w.heap.size w w' := by
  have mb : ∀ W : World, (Instr.makeSlice 23 (.int .i64 512) (.int .i64 512)).run Try.prog W = .ok (.slice (some ⟨W.heap.size, 0, none⟩) 512 512) (W.alloc (.cells (madeCells #[.bool false] 512) 4)) := print_make_of (P := Try.prog) 23 4 (.bool false) 1 Try.underlying23 infoBool rfl (by omega) 512 (by omega)
  have mc : ∀ W : World, (Instr.makeSlice 95 (.int .i64 512) (.int .i64 512)).run Try.prog W = .ok (.slice (some ⟨W.heap.size, 0, none⟩) 512 512) (W.alloc (.cells (madeCells #[.slice none 0 0] 512) 22)) := print_make_of (P := Try.prog) 95 22 (.slice none 0 0) 24 Try.underlying95 infoRow rfl (by omega) 512 (by omega)
  go_enter Try.func115, Try.ntmps115
  go_wp2_with fail
  go_region
  · go_wp2_with fail
    have hsz : (w.alloc (.cells #[.slice (some ⟨w.heap.size + 1, 0, none⟩) 512 512, .slice (some ⟨w.heap.size + 1 + 1, 0, none⟩) 512 512, .bool false, .int .u64 0, .slice none 0 0, .int .u32 0, .slice none 0 0] 97)).heap.size = w.heap.size + 1 := World.size_alloc _ _
    have hsz2 : ((w.alloc (.cells #[.slice (some ⟨w.heap.size + 1, 0, none⟩) 512 512, .slice (some ⟨w.heap.size + 1 + 1, 0, none⟩) 512 512, .bool false, .int .u64 0, .slice none 0 0, .int .u32 0, .slice none 0 0] 97)).alloc (.cells (madeCells #[.bool false] 512) 4)).heap.size = w.heap.size + 1 + 1 := by rw [World.size_alloc, hsz]
    have hz : ((((w.alloc (.cells #[.slice (some ⟨w.heap.size + 1, 0, none⟩) 512 512, .slice (some ⟨w.heap.size + 1 + 1, 0, none⟩) 512 512, .bool false, .int .u64 0, .slice none 0 0, .int .u32 0, .slice none 0 0] 97)).alloc (.cells (madeCells #[.bool false] 512) 4)).alloc (.cells (madeCells #[.slice none 0 0] 512) 22)).drew).heap[w.heap.size]? = some (.cells #[.slice (some ⟨w.heap.size + 1, 0, none⟩) 512 512, .slice (some ⟨w.heap.size + 1 + 1, 0, none⟩) 512 512, .bool false, .int .u64 0, .slice none 0 0, .int .u32 0, .slice none 0 0] 97 (0, 0)) := blk_alloc (blk_alloc (blk_new w (.cells #[.slice (some ⟨w.heap.size + 1, 0, none⟩) 512 512, .slice (some ⟨w.heap.size + 1 + 1, 0, none⟩) 512 512, .bool false, .int .u64 0, .slice none 0 0, .int .u32 0, .slice none 0 0] 97)) (.cells (madeCells #[.bool false] 512) 4)) (.cells (madeCells #[.slice none 0 0] 512) 22)
    have hA := blk_alloc (blk_new (w.alloc (.cells #[.slice (some ⟨w.heap.size + 1, 0, none⟩) 512 512, .slice (some ⟨w.heap.size + 1 + 1, 0, none⟩) 512 512, .bool false, .int .u64 0, .slice none 0 0, .int .u32 0, .slice none 0 0] 97)) (.cells (madeCells #[.bool false] 512) 4)) (.cells (madeCells #[.slice none 0 0] 512) 22)
    rw [hsz] at hA
    have hB := blk_new ((w.alloc (.cells #[.slice (some ⟨w.heap.size + 1, 0, none⟩) 512 512, .slice (some ⟨w.heap.size + 1 + 1, 0, none⟩) 512 512, .bool false, .int .u64 0, .slice none 0 0, .int .u32 0, .slice none 0 0] 97)).alloc (.cells (madeCells #[.bool false] 512) 4)) (.cells (madeCells #[.slice none 0 0] 512) 22)
    rw [hsz2] at hB
    have hA' : ((((w.alloc (.cells #[.slice (some ⟨w.heap.size + 1, 0, none⟩) 512 512, .slice (some ⟨w.heap.size + 1 + 1, 0, none⟩) 512 512, .bool false, .int .u64 0, .slice none 0 0, .int .u32 0, .slice none 0 0] 97)).alloc (.cells (madeCells #[.bool false] 512) 4)).alloc (.cells (madeCells #[.slice none 0 0] 512) 22)).drew).heap[w.heap.size + 1]? = _ := hA
    have hB' : ((((w.alloc (.cells #[.slice (some ⟨w.heap.size + 1, 0, none⟩) 512 512, .slice (some ⟨w.heap.size + 1 + 1, 0, none⟩) 512 512, .bool false, .int .u64 0, .slice none 0 0, .int .u32 0, .slice none 0 0] 97)).alloc (.cells (madeCells #[.bool false] 512) 4)).alloc (.cells (madeCells #[.slice none 0 0] 512) 22)).drew).heap[w.heap.size + 1 + 1]? = _ := hB
    have hbl : Below w.heap.size w ((((w.alloc (.cells #[.slice (some ⟨w.heap.size + 1, 0, none⟩) 512 512, .slice (some ⟨w.heap.size + 1 + 1, 0, none⟩) 512 512, .bool false, .int .u64 0, .slice none 0 0, .int .u32 0, .slice none 0 0] 97)).alloc (.cells (madeCells #[.bool false] 512) 4)).alloc (.cells (madeCells #[.slice none 0 0] 512) 22)).drew) := below_drew (below_alloc (below_alloc (below_alloc (Below.refl w.heap.size w) (.cells #[.slice (some ⟨w.heap.size + 1, 0, none⟩) 512 512, .slice (some ⟨w.heap.size + 1 + 1, 0, none⟩) 512 512, .bool false, .int .u64 0, .slice none 0 0, .int .u32 0, .slice none 0 0] 97)) (.cells (madeCells #[.bool false] 512) 4)) (.cells (madeCells #[.slice none 0 0] 512) 22))
    clear hA hB hsz hsz2
    generalize (((w.alloc (.cells #[.slice (some ⟨w.heap.size + 1, 0, none⟩) 512 512, .slice (some ⟨w.heap.size + 1 + 1, 0, none⟩) 512 512, .bool false, .int .u64 0, .slice none 0 0, .int .u32 0, .slice none 0 0] 97)).alloc (.cells (madeCells #[.bool false] 512) 4)).alloc (.cells (madeCells #[.slice none 0 0] 512) 22)).drew = W at hz hA' hB' hbl ⊢
    obtain ⟨c0, c1, c2, c3, c4, c5, c6⟩ := cells7 hz
    refine bodyPost_ret (v := .agg #[.slice (some ⟨w.heap.size + 1, 0, none⟩) 512 512, .slice (some ⟨w.heap.size + 1 + 1, 0, none⟩) 512 512, .bool false, .int .u64 0, .slice none 0 0, .int .u32 0, .slice none 0 0]) (by simp [results, Try.results115, go_sem, c0, c1, c2, c3, c4, c5, c6]) rfl ?_
    exact ⟨_, _, _, _, _, _, _, rfl, fun b => rstate_new hA' hB', hbl⟩
  · go_wp2_with fail
    have hsz : (w.alloc (.cells #[.slice (some ⟨w.heap.size + 1 + 1, 0, none⟩) 512 512, .slice (some ⟨w.heap.size + 1, 0, none⟩) 512 512, .bool false, .int .u64 0, .slice none 0 0, .int .u32 0, .slice none 0 0] 97)).heap.size = w.heap.size + 1 := World.size_alloc _ _
    have hsz2 : ((w.alloc (.cells #[.slice (some ⟨w.heap.size + 1 + 1, 0, none⟩) 512 512, .slice (some ⟨w.heap.size + 1, 0, none⟩) 512 512, .bool false, .int .u64 0, .slice none 0 0, .int .u32 0, .slice none 0 0] 97)).alloc (.cells (madeCells #[.slice none 0 0] 512) 22)).heap.size = w.heap.size + 1 + 1 := by rw [World.size_alloc, hsz]
    have hz : ((((w.alloc (.cells #[.slice (some ⟨w.heap.size + 1 + 1, 0, none⟩) 512 512, .slice (some ⟨w.heap.size + 1, 0, none⟩) 512 512, .bool false, .int .u64 0, .slice none 0 0, .int .u32 0, .slice none 0 0] 97)).alloc (.cells (madeCells #[.slice none 0 0] 512) 22)).alloc (.cells (madeCells #[.bool false] 512) 4)).drew).heap[w.heap.size]? = some (.cells #[.slice (some ⟨w.heap.size + 1 + 1, 0, none⟩) 512 512, .slice (some ⟨w.heap.size + 1, 0, none⟩) 512 512, .bool false, .int .u64 0, .slice none 0 0, .int .u32 0, .slice none 0 0] 97 (0, 0)) := blk_alloc (blk_alloc (blk_new w (.cells #[.slice (some ⟨w.heap.size + 1 + 1, 0, none⟩) 512 512, .slice (some ⟨w.heap.size + 1, 0, none⟩) 512 512, .bool false, .int .u64 0, .slice none 0 0, .int .u32 0, .slice none 0 0] 97)) (.cells (madeCells #[.slice none 0 0] 512) 22)) (.cells (madeCells #[.bool false] 512) 4)
    have hA := blk_alloc (blk_new (w.alloc (.cells #[.slice (some ⟨w.heap.size + 1 + 1, 0, none⟩) 512 512, .slice (some ⟨w.heap.size + 1, 0, none⟩) 512 512, .bool false, .int .u64 0, .slice none 0 0, .int .u32 0, .slice none 0 0] 97)) (.cells (madeCells #[.slice none 0 0] 512) 22)) (.cells (madeCells #[.bool false] 512) 4)
    rw [hsz] at hA
    have hB := blk_new ((w.alloc (.cells #[.slice (some ⟨w.heap.size + 1 + 1, 0, none⟩) 512 512, .slice (some ⟨w.heap.size + 1, 0, none⟩) 512 512, .bool false, .int .u64 0, .slice none 0 0, .int .u32 0, .slice none 0 0] 97)).alloc (.cells (madeCells #[.slice none 0 0] 512) 22)) (.cells (madeCells #[.bool false] 512) 4)
    rw [hsz2] at hB
    have hA' : ((((w.alloc (.cells #[.slice (some ⟨w.heap.size + 1 + 1, 0, none⟩) 512 512, .slice (some ⟨w.heap.size + 1, 0, none⟩) 512 512, .bool false, .int .u64 0, .slice none 0 0, .int .u32 0, .slice none 0 0] 97)).alloc (.cells (madeCells #[.slice none 0 0] 512) 22)).alloc (.cells (madeCells #[.bool false] 512) 4)).drew).heap[w.heap.size + 1]? = _ := hA
    have hB' : ((((w.alloc (.cells #[.slice (some ⟨w.heap.size + 1 + 1, 0, none⟩) 512 512, .slice (some ⟨w.heap.size + 1, 0, none⟩) 512 512, .bool false, .int .u64 0, .slice none 0 0, .int .u32 0, .slice none 0 0] 97)).alloc (.cells (madeCells #[.slice none 0 0] 512) 22)).alloc (.cells (madeCells #[.bool false] 512) 4)).drew).heap[w.heap.size + 1 + 1]? = _ := hB
    have hbl : Below w.heap.size w ((((w.alloc (.cells #[.slice (some ⟨w.heap.size + 1 + 1, 0, none⟩) 512 512, .slice (some ⟨w.heap.size + 1, 0, none⟩) 512 512, .bool false, .int .u64 0, .slice none 0 0, .int .u32 0, .slice none 0 0] 97)).alloc (.cells (madeCells #[.slice none 0 0] 512) 22)).alloc (.cells (madeCells #[.bool false] 512) 4)).drew) := below_drew (below_alloc (below_alloc (below_alloc (Below.refl w.heap.size w) (.cells #[.slice (some ⟨w.heap.size + 1 + 1, 0, none⟩) 512 512, .slice (some ⟨w.heap.size + 1, 0, none⟩) 512 512, .bool false, .int .u64 0, .slice none 0 0, .int .u32 0, .slice none 0 0] 97)) (.cells (madeCells #[.slice none 0 0] 512) 22)) (.cells (madeCells #[.bool false] 512) 4))
    clear hA hB hsz hsz2
    generalize (((w.alloc (.cells #[.slice (some ⟨w.heap.size + 1 + 1, 0, none⟩) 512 512, .slice (some ⟨w.heap.size + 1, 0, none⟩) 512 512, .bool false, .int .u64 0, .slice none 0 0, .int .u32 0, .slice none 0 0] 97)).alloc (.cells (madeCells #[.slice none 0 0] 512) 22)).alloc (.cells (madeCells #[.bool false] 512) 4)).drew = W at hz hA' hB' hbl ⊢
    obtain ⟨c0, c1, c2, c3, c4, c5, c6⟩ := cells7 hz
    refine bodyPost_ret (v := .agg #[.slice (some ⟨w.heap.size + 1 + 1, 0, none⟩) 512 512, .slice (some ⟨w.heap.size + 1, 0, none⟩) 512 512, .bool false, .int .u64 0, .slice none 0 0, .int .u32 0, .slice none 0 0]) (by simp [results, Try.results115, go_sem, c0, c1, c2, c3, c4, c5, c6]) rfl ?_
    exact ⟨_, _, _, _, _, _, _, rfl, fun b => rstate_new hB' hA', hbl⟩
end Go.Proofs.Ytliohoalackhiaa.T
namespace Go.Proofs.Ytliohoalackhiaa.T
open Go.ChangeMaps hiding rd
open Go.RowKit Go.Maps Go.Proofs.YtliohoalackhiaaW.PrintWords Go.Proofs.YtliohoalackhiaaW.PrintLast Go.Proofs.YtliohoalackhiaaW.PrintMore Go.Proofs.Ytliohoalackhiaa.Num Go.Proofs.Ytliohoalackhiaa.CrcN
set_option linter.unusedVariables false
set_option linter.unusedSimpArgs false
def setAll (w : World) (g : Nat) : Nat → List Value → World
  | _, [] => w
  | j, v :: t => setAll (w.setCell ⟨g, j, none⟩ v) g (j + 1) t
theorem setAll_go (g : Nat) (t : TypeId) : ∀ (vs : List Value) (j : Nat) (w : World) (pre post : List Value), pre.length = j → post.length = vs.length → w.heap[g]? = some (.cells (pre ++ post).toArray t) →
    (setAll w g j vs).heap[g]? = some (.cells (pre ++ vs).toArray t) ∧ (∀ k, k ≠ g → (setAll w g j vs).heap[k]? = w.heap[k]?) ∧ (∀ b w0, b ≤ g → Below b w0 w → Below b w0 (setAll w g j vs))
  | [], j, w, pre, post, h1, h2, h => by
    obtain rfl : post = [] := List.eq_nil_of_length_eq_zero h2
    exact ⟨h, fun _ _ => rfl, fun _ _ _ q => q⟩
  | v :: vs, j, w, pre, post, h1, h2, h => by
    obtain ⟨p, post, rfl⟩ : ∃ p q, post = p :: q := by
      cases post with
      | nil => simp at h2
      | cons p q => exact ⟨p, q, rfl⟩
    have e : (pre ++ p :: post).toArray.setIfInBounds j v = (pre ++ [v] ++ post).toArray := by
      subst h1
      simp
    have hh : (w.setCell ⟨g, j, none⟩ v).heap[g]? = some (.cells (pre ++ [v] ++ post).toArray t) := blk_put h j v e
    obtain ⟨q1, q2, q3⟩ := setAll_go g t vs (j + 1) (w.setCell ⟨g, j, none⟩ v) (pre ++ [v]) post (by simp [h1]) (by simpa using h2) hh
    refine ⟨by rw [setAll]; simpa using q1, fun k hk => by rw [setAll]; exact (q2 k hk).trans (heap_set v hk), fun b w0 hb hB => by rw [setAll]; exact q3 b w0 hb (hB.setCell hb v)⟩
theorem setAll_spec {w : World} {g : Nat} {cs : Array Value} {t : TypeId} (h : w.heap[g]? = some (.cells cs t)) (vs : List Value) (hl : vs.length = cs.size) :
    (setAll w g 0 vs).heap[g]? = some (.cells vs.toArray t) ∧ (∀ k, k ≠ g → (setAll w g 0 vs).heap[k]? = w.heap[k]?) ∧ (∀ b w0, b ≤ g → Below b w0 w → Below b w0 (setAll w g 0 vs)) := by
  have := setAll_go g t vs 0 w [] cs.toList rfl (by rw [hl]; simp) (by simpa using h)
  simpa using this
theorem setAll7 {w : World} {g : Nat} {a0 a1 a2 a3 a4 a5 a6 : Value} : ((((((w.setCell ⟨g, 0, none⟩ a0).setCell ⟨g, 1, none⟩ a1).setCell ⟨g, 2, none⟩ a2).setCell ⟨g, 3, none⟩ a3).setCell ⟨g, 4, none⟩ a4).setCell ⟨g, 5, none⟩ a5).setCell ⟨g, 6, none⟩ a6 = setAll w g 0 [a0, a1, a2, a3, a4, a5, a6] := rfl
theorem setAll15 {w : World} {g : Nat} {a0 a1 a2 a3 a4 a5 a6 a7 a8 a9 a10 a11 a12 a13 a14 : Value} : ((((((((((((((w.setCell ⟨g, 0, none⟩ a0).setCell ⟨g, 1, none⟩ a1).setCell ⟨g, 2, none⟩ a2).setCell ⟨g, 3, none⟩ a3).setCell ⟨g, 4, none⟩ a4).setCell ⟨g, 5, none⟩ a5).setCell ⟨g, 6, none⟩ a6).setCell ⟨g, 7, none⟩ a7).setCell ⟨g, 8, none⟩ a8).setCell ⟨g, 9, none⟩ a9).setCell ⟨g, 10, none⟩ a10).setCell ⟨g, 11, none⟩ a11).setCell ⟨g, 12, none⟩ a12).setCell ⟨g, 13, none⟩ a13).setCell ⟨g, 14, none⟩ a14 = setAll w g 0 [a0, a1, a2, a3, a4, a5, a6, a7, a8, a9, a10, a11, a12, a13, a14] := rfl
abbrev put7b (w : World) (g : Nat) (a0 a1 a2 a3 a4 a5 a6 : Value) : World := ((((((w.setCell ⟨g, 7, none⟩ a0).setCell ⟨g, 8, none⟩ a1).setCell ⟨g, 9, none⟩ a2).setCell ⟨g, 10, none⟩ a3).setCell ⟨g, 11, none⟩ a4).setCell ⟨g, 12, none⟩ a5).setCell ⟨g, 13, none⟩ a6
theorem leaves_all {b : Nat} {w W : World} {g : Nat} {cs : Array Value} {t : TypeId} {fr : Nat × Nat} (hg : w.heap[g]? = some (.cells cs t fr)) (ht : t = 100 ∨ t = 97) (hb : b ≤ g) (ho : ∀ k, k ≠ g → W.heap[k]? = w.heap[k]?) : Leaves b w W := fun k hk => ho k (fun e => by
    subst e
    rcases hk with hk | ⟨cs', t', fr', hc, _, _, n3, n4⟩
    · omega
    · rw [hg] at hc
      injection hc with hc
      injection hc with _ e _
      rcases ht with ht | ht
      · exact n3 (e ▸ ht)
      · exact n4 (e ▸ ht))
theorem rt_nil {b : Nat} {w : World} {a1 a2 : List Value} {A1 A2 : Hist × List Int} (h1 : RState b w a1 A1) (h2 : RState b w a2 A2) : RT b w (a1 ++ a2 ++ [.slice none 0 0]) A1 A2 [] :=
  ⟨a1, a2, none, 0, 0, [], rfl, h1, h2, rfl, ⟨Nat.le_refl _, fun h => by omega⟩, fun W _ => Kd.C_nil _ _, .nil⟩
theorem RState.one {b : Nat} {w : World} {v0 v1 v2 v3 v4 v5 v6 : Value} {A : Hist × List Int} (h : RState b w [v0, v1, v2, v3, v4, v5, v6] A) : v0.oneCell' = true ∧ v1.oneCell' = true ∧ v2.oneCell' = true ∧ v3.oneCell' = true ∧ v4.oneCell' = true ∧ v5.oneCell' = true ∧ v6.oneCell' = true := by
  obtain ⟨Ah, ch, has, Ac, cc, rows, isb, x, V1, c1, ss, y, V3, c3, kn, e, _⟩ := h
  cases e
  exact ⟨rfl, rfl, rfl, rfl, rfl, rfl, rfl⟩
theorem RState.shape {b : Nat} {w : World} {vs : List Value} {A : Hist × List Int} (h : RState b w vs A) : ∃ (Ah : Option Addr) (ch : Nat) (Ac : Option Addr) (cc : Nat) (isb : Bool) (x : Int) (V1 : Option Addr) (n1 c1 : Nat) (y : Int) (V3 : Option Addr) (n3 c3 : Nat), vs = [.slice Ah 512 ch, .slice Ac 512 cc, .bool isb, .int .u64 x, .slice V1 n1 c1, .int .u32 y, .slice V3 n3 c3] := by
  obtain ⟨Ah, ch, has, Ac, cc, rows, isb, x, V1, c1, ss, y, V3, c3, kn, e, _⟩ := h
  exact ⟨_, _, _, _, _, _, _, _, _, _, _, _, _, e⟩
theorem RT.shape {b : Nat} {w : World} {vs : List Value} {A1 A2 : Hist × List Int} {steps : List Step} (h : RT b w vs A1 A2 steps) : ∃ (Ah : Option Addr) (ch : Nat) (Ac : Option Addr) (cc : Nat) (isb : Bool) (x : Int) (V1 : Option Addr) (n1 c1 : Nat) (y : Int) (V3 : Option Addr) (n3 c3 : Nat) (Bh : Option Addr) (ch2 : Nat) (Bc : Option Addr) (cc2 : Nat) (isb2 : Bool) (x2 : Int) (V12 : Option Addr) (n12 c12 : Nat) (y2 : Int) (V32 : Option Addr) (n32 c32 : Nat) (L : Option Addr) (n cl : Nat) (rows : List (List Value)),
    vs = [.slice Ah 512 ch, .slice Ac 512 cc, .bool isb, .int .u64 x, .slice V1 n1 c1, .int .u32 y, .slice V3 n3 c3, .slice Bh 512 ch2, .slice Bc 512 cc2, .bool isb2, .int .u64 x2, .slice V12 n12 c12, .int .u32 y2, .slice V32 n32 c32, .slice L n cl] ∧
    RState b w [.slice Ah 512 ch, .slice Ac 512 cc, .bool isb, .int .u64 x, .slice V1 n1 c1, .int .u32 y, .slice V3 n3 c3] A1 ∧ RState b w [.slice Bh 512 ch2, .slice Bc 512 cc2, .bool isb2, .int .u64 x2, .slice V12 n12 c12, .int .u32 y2, .slice V32 n32 c32] A2 ∧
    n = rows.length ∧ (n ≤ cl ∧ (0 < n → ∃ gL, L = some ⟨gL, 0, none⟩)) ∧ Firm b w (fun W => Kd.C (Kd.raw 7) W L rows.length rows) ∧ All2 (RStep b w) rows steps := by
  obtain ⟨c1, c2, L, n, cl, rows, e, h1, h2, h3, h4, h5, h6⟩ := h
  obtain ⟨Ah, ch, Ac, cc, isb, x, V1, n1, c1, y, V3, n3, c3, rfl⟩ := h1.shape
  obtain ⟨Bh, ch2, Bc, cc2, isb2, x2, V12, n12, c12, y2, V32, n32, c32, rfl⟩ := h2.shape
  exact ⟨Ah, ch, Ac, cc, isb, x, V1, n1, c1, y, V3, n3, c3, Bh, ch2, Bc, cc2, isb2, x2, V12, n12, c12, y2, V32, n32, c32, L, n, cl, rows, e, h1, h2, h3, h4, h5, h6⟩
set_option maxRecDepth 100000 in
set_option maxHeartbeats 4000000 in
theorem ref_new (w : World) : Calls Try.prog 64 #[] w fun e w' => ∃ vs : List Value, e = .returned (.agg vs.toArray) ∧ vs.length = 15 ∧ (∀ b, b ≤ w.heap.size → RT b w' vs ([], []) ([], []) []) ∧ Below w.heap.size w w' := by
  go_enter Try.func64, Try.ntmps64
  go_wp2_with fail
  have hb0 := below_alloc (Below.refl w.heap.size w) (.cells #[.slice none 0 0, .slice none 0 0, .bool false, .int .u64 0, .slice none 0 0, .int .u32 0, .slice none 0 0, .slice none 0 0, .slice none 0 0, .bool false, .int .u64 0, .slice none 0 0, .int .u32 0, .slice none 0 0, .slice none 0 0] 100)
  have hz0 := blk_new w (.cells #[.slice none 0 0, .slice none 0 0, .bool false, .int .u64 0, .slice none 0 0, .int .u32 0, .slice none 0 0, .slice none 0 0, .slice none 0 0, .bool false, .int .u64 0, .slice none 0 0, .int .u32 0, .slice none 0 0, .slice none 0 0] 100)
  generalize w.alloc (.cells #[.slice none 0 0, .slice none 0 0, .bool false, .int .u64 0, .slice none 0 0, .int .u32 0, .slice none 0 0, .slice none 0 0, .slice none 0 0, .bool false, .int .u64 0, .slice none 0 0, .int .u32 0, .slice none 0 0, .slice none 0 0] 100) = wa at hb0 hz0 ⊢
  refine (ref_none wa).mono ?_
  rintro e w1 ⟨a0, a1, a2, a3, a4, a5, a6, rfl, h1, hb1⟩
  obtain ⟨Ah, ch, has, Ac, cc, rows, isb, x, V1, c1, ss, y, V3, c3, kn, e, _⟩ := h1 0
  cases e
  have H1 := Aside0.mk h1
  have HB1 := Aside0.mk (below_step hb0 hb1)
  have HZ1 := Aside0.mk (blk_below hz0 hb1)
  clear h1 hb0 hb1 hz0
  go_wp2_with fail
  refine (ref_none w1).mono ?_
  rintro e w2 ⟨b0, b1, b2, b3, b4, b5, b6, rfl, h2, hb2⟩
  obtain ⟨Bh, ch2, has2, Bc, cc2, rows2, isb2, x2, V12, c12, ss2, y2, V32, c32, kn2, e, _⟩ := h2 0
  cases e
  have H2 := Aside0.mk h2
  have H12 : Aside0 (∀ b, b ≤ w.heap.size → RState b w2 _ _) := ⟨fun b hb => (H1.out b).step (Leaves.of_below hb2 (Nat.le_trans hb HB1.out.size))⟩
  have HB2 := Aside0.mk (below_step HB1.out hb2)
  have HZ2 := Aside0.mk (blk_below HZ1.out hb2)
  clear h2 hb2
  obtain ⟨z0, z1, z2, z3, z4, z5, z6, z7, z8, z9, z10, z11, z12, z13, z14⟩ := cells15 HZ2.out
  obtain ⟨zf0, zf1, zf2, zf3, zf4, zf5, zf6, zf7, zf8, zf9, zf10, zf11, zf12, zf13, zf14⟩ := frozen15 HZ2.out
  go_wp2_with fail
  have hs := setAll_spec HZ2.out [.slice Ah 512 ch, .slice Ac 512 cc, .bool isb, .int .u64 x, .slice V1 ss.length c1, .int .u32 y, .slice V3 kn.length c3, .slice Bh 512 ch2, .slice Bc 512 cc2, .bool isb2, .int .u64 x2, .slice V12 ss2.length c12, .int .u32 y2, .slice V32 kn2.length c32, .slice none 0 0] rfl
  rw [setAll15]
  generalize setAll (w2) w.heap.size 0 [.slice Ah 512 ch, .slice Ac 512 cc, .bool isb, .int .u64 x, .slice V1 ss.length c1, .int .u32 y, .slice V3 kn.length c3, .slice Bh 512 ch2, .slice Bc 512 cc2, .bool isb2, .int .u64 x2, .slice V12 ss2.length c12, .int .u32 y2, .slice V32 kn2.length c32, .slice none 0 0] = W at hs ⊢
  have HL : ∀ b, b ≤ w.heap.size → Leaves b w2 W := fun b hb => leaves_all HZ2.out (.inl rfl) hb hs.2.1
  have hbl : Below w.heap.size w W := hs.2.2 _ _ (Nat.le_refl _) HB2.out
  have p14 := hs.1
  clear hs
  obtain ⟨d0, d1, d2, d3, d4, d5, d6, d7, d8, d9, d10, d11, d12, d13, d14⟩ := cells15 p14
  refine bodyPost_ret (v := .agg #[.slice Ah 512 ch, .slice Ac 512 cc, .bool isb, .int .u64 x, .slice V1 ss.length c1, .int .u32 y, .slice V3 kn.length c3, .slice Bh 512 ch2, .slice Bc 512 cc2, .bool isb2, .int .u64 x2, .slice V12 ss2.length c12, .int .u32 y2, .slice V32 kn2.length c32, .slice none 0 0]) (by simp [results, Try.results64, go_sem, d0, d1, d2, d3, d4, d5, d6, d7, d8, d9, d10, d11, d12, d13, d14]) rfl ?_
  exact ⟨[.slice Ah 512 ch, .slice Ac 512 cc, .bool isb, .int .u64 x, .slice V1 ss.length c1, .int .u32 y, .slice V3 kn.length c3, .slice Bh 512 ch2, .slice Bc 512 cc2, .bool isb2, .int .u64 x2, .slice V12 ss2.length c12, .int .u32 y2, .slice V32 kn2.length c32, .slice none 0 0], rfl, rfl, fun b hb => rt_nil ((H12.out b hb).step (HL b hb)) ((H2.out b).step (HL b hb)), hbl⟩
set_option maxRecDepth 100000 in
set_option maxHeartbeats 4000000 in
theorem ref_flush (w : World) (b : Nat) (hb : b ≤ w.heap.size) (vs : List Value) (A1 A2 : Hist × List Int) (steps : List Step) (h : RT b w vs A1 A2 steps) :
    Calls Try.prog 116 #[.agg vs.toArray] w fun e w' => ∃ vs' : List Value, e = .returned (.agg vs'.toArray) ∧ RT b w' vs' A2 A2 [] ∧ Below w.heap.size w w' := by
  obtain ⟨Ah, ch, Ac, cc, isb, x, V1, n1, c1, y, V3, n3, c3, Bh, ch2, Bc, cc2, isb2, x2, V12, n12, c12, y2, V32, n32, c32, L, n, cl, rows, rfl, h1, h2, h3, h4, h5, h6⟩ := h.shape
  clear h h1 h3 h4 h5 h6
  have H2 := Aside0.mk h2
  clear h2
  go_enter Try.func116, Try.ntmps116
  go_wp2_with fail
  have hz := blk_new (w.alloc (.cells #[.slice Ah 512 ch, .slice Ac 512 cc, .bool isb, .int .u64 x, .slice V1 n1 c1, .int .u32 y, .slice V3 n3 c3, .slice Bh 512 ch2, .slice Bc 512 cc2, .bool isb2, .int .u64 x2, .slice V12 n12 c12, .int .u32 y2, .slice V32 n32 c32, .slice L n cl] 100)) (.cells #[.slice Bh 512 ch2, .slice Bc 512 cc2, .bool isb2, .int .u64 x2, .slice V12 n12 c12, .int .u32 y2, .slice V32 n32 c32, .slice Bh 512 ch2, .slice Bc 512 cc2, .bool isb2, .int .u64 x2, .slice V12 n12 c12, .int .u32 y2, .slice V32 n32 c32, .slice none 0 0] 100)
  have hbl : Below w.heap.size w ((w.alloc (.cells #[.slice Ah 512 ch, .slice Ac 512 cc, .bool isb, .int .u64 x, .slice V1 n1 c1, .int .u32 y, .slice V3 n3 c3, .slice Bh 512 ch2, .slice Bc 512 cc2, .bool isb2, .int .u64 x2, .slice V12 n12 c12, .int .u32 y2, .slice V32 n32 c32, .slice L n cl] 100)).alloc (.cells #[.slice Bh 512 ch2, .slice Bc 512 cc2, .bool isb2, .int .u64 x2, .slice V12 n12 c12, .int .u32 y2, .slice V32 n32 c32, .slice Bh 512 ch2, .slice Bc 512 cc2, .bool isb2, .int .u64 x2, .slice V12 n12 c12, .int .u32 y2, .slice V32 n32 c32, .slice none 0 0] 100)) := below_alloc (below_alloc (Below.refl w.heap.size w) (.cells #[.slice Ah 512 ch, .slice Ac 512 cc, .bool isb, .int .u64 x, .slice V1 n1 c1, .int .u32 y, .slice V3 n3 c3, .slice Bh 512 ch2, .slice Bc 512 cc2, .bool isb2, .int .u64 x2, .slice V12 n12 c12, .int .u32 y2, .slice V32 n32 c32, .slice L n cl] 100)) (.cells #[.slice Bh 512 ch2, .slice Bc 512 cc2, .bool isb2, .int .u64 x2, .slice V12 n12 c12, .int .u32 y2, .slice V32 n32 c32, .slice Bh 512 ch2, .slice Bc 512 cc2, .bool isb2, .int .u64 x2, .slice V12 n12 c12, .int .u32 y2, .slice V32 n32 c32, .slice none 0 0] 100)
  rw [World.size_alloc] at hz
  generalize (w.alloc (.cells #[.slice Ah 512 ch, .slice Ac 512 cc, .bool isb, .int .u64 x, .slice V1 n1 c1, .int .u32 y, .slice V3 n3 c3, .slice Bh 512 ch2, .slice Bc 512 cc2, .bool isb2, .int .u64 x2, .slice V12 n12 c12, .int .u32 y2, .slice V32 n32 c32, .slice L n cl] 100)).alloc (.cells #[.slice Bh 512 ch2, .slice Bc 512 cc2, .bool isb2, .int .u64 x2, .slice V12 n12 c12, .int .u32 y2, .slice V32 n32 c32, .slice Bh 512 ch2, .slice Bc 512 cc2, .bool isb2, .int .u64 x2, .slice V12 n12 c12, .int .u32 y2, .slice V32 n32 c32, .slice none 0 0] 100) = W at hz hbl ⊢
  obtain ⟨d0, d1, d2, d3, d4, d5, d6, d7, d8, d9, d10, d11, d12, d13, d14⟩ := cells15 hz
  refine bodyPost_ret (v := .agg #[.slice Bh 512 ch2, .slice Bc 512 cc2, .bool isb2, .int .u64 x2, .slice V12 n12 c12, .int .u32 y2, .slice V32 n32 c32, .slice Bh 512 ch2, .slice Bc 512 cc2, .bool isb2, .int .u64 x2, .slice V12 n12 c12, .int .u32 y2, .slice V32 n32 c32, .slice none 0 0]) (by simp [results, Try.results116, go_sem, d0, d1, d2, d3, d4, d5, d6, d7, d8, d9, d10, d11, d12, d13, d14]) rfl ?_
  have h2 := H2.out.step (Leaves.of_below hbl hb)
  exact ⟨_, rfl, rt_nil h2 h2, hbl⟩
end Go.Proofs.Ytliohoalackhiaa.T
namespace Go.Proofs.Ytliohoalackhiaa.T
open Go.ChangeMaps hiding rd
open Go.RowKit Go.Maps Go.Proofs.YtliohoalackhiaaW.PrintWords Go.Proofs.YtliohoalackhiaaW.PrintLast Go.Proofs.YtliohoalackhiaaW.PrintMore Go.Proofs.Ytliohoalackhiaa.Num Go.Proofs.Ytliohoalackhiaa.CrcN
set_option linter.unusedVariables false
set_option linter.unusedSimpArgs false
theorem RState.at_ {b : Nat} {w : World} {Ah : Option Addr} {ch : Nat} {Ac : Option Addr} {cc : Nat} {v2 v3 v4 v5 v6 : Value} {A : Hist × List Int} (h : RState b w [.slice Ah 512 ch, .slice Ac 512 cc, v2, v3, v4, v5, v6] A) (i : Nat) (hi : i < 512) :
    (∃ ad, Ah = some ad ∧ Firm b w (fun W => W.cell? (ad.add i) = some (.bool (getA A.1 (i : Int)).isSome))) ∧ ∀ l, getA A.1 (i : Int) = some l → ∃ ad B c, Ac = some ad ∧ Firm b w (fun W => W.cell? (ad.add i) = some (.slice B l.length c)) ∧ l.length ≤ c ∧ Bytes l ∧ Firm b w (fun W => Kd.C (Kd.int .u8) W B l.length l) := by
  obtain ⟨Ah', ch', has, Ac', cc', rows, isb, x, V1, c1, ss, y, V3, c3, kn, e, h1, h2, h3, h4, h5, h6, h7, h8, h9, h10⟩ := h
  simp only [List.cons.injEq, Value.slice.injEq] at e
  obtain ⟨⟨rfl, _, rfl⟩, ⟨rfl, _, rfl⟩, _⟩ := e
  constructor
  · obtain ⟨ad, e, _⟩ := Kd.at_bool h5.now (i : Int) (by omega) (by omega)
    subst e
    refine ⟨ad, rfl, fun W hW => ?_⟩
    obtain ⟨ad', e', hc⟩ := Kd.at_bool (h5 W hW) (i : Int) (by omega) (by omega)
    cases e'
    rw [← h7 i hi, show has.getD i false = rdOf false has (i : Int) from by unfold rdOf; rw [Int.toNat_natCast]]
    rwa [Int.toNat_natCast] at hc
  · intro l hl
    obtain ⟨B, c, e1, e2, e3, e4⟩ := h8 i hi l hl
    obtain ⟨ad, e, _⟩ := ReadsOf.at_ (Kd.reads_of_C (enc := slc) (d := (none, 0, 0)) (h1 := fun _ => rfl) h6.now) (i : Int) (by omega) (by omega)
    subst e
    refine ⟨ad, B, c, rfl, fun W hW => ?_, e2, e3, e4⟩
    obtain ⟨ad', e', hc⟩ := ReadsOf.at_ (Kd.reads_of_C (enc := slc) (d := (none, 0, 0)) (h1 := fun _ => rfl) (h6 W hW)) (i : Int) (by omega) (by omega)
    cases e'
    rw [show rdOf (none, 0, 0) rows (i : Int) = rows.getD i (none, 0, 0) from by unfold rdOf; rw [Int.toNat_natCast], e1, Int.toNat_natCast] at hc
    exact hc
theorem RState.tok {b : Nat} {w : World} {v0 v1 : Value} {isb : Bool} {x : Int} {V1 : Option Addr} {n1 c1 : Nat} {y : Int} {V3 : Option Addr} {n3 c3 : Nat} {A : Hist × List Int} (h : RState b w [v0, v1, .bool isb, .int .u64 x, .slice V1 n1 c1, .int .u32 y, .slice V3 n3 c3] A) :
    ∃ ss kn, n1 = ss.length ∧ n3 = kn.length ∧ TokR b w V1 c1 ss V3 c3 kn ∧ TokIs isb x ss y kn A.2 := by
  obtain ⟨Ah', ch', has, Ac', cc', rows, isb', x', V1', c1', ss, y', V3', c3', kn, e, h1, h2, h3, h4, h5, h6, h7, h8, h9, h10⟩ := h
  simp only [List.cons.injEq, Value.slice.injEq, Value.bool.injEq, Value.int.injEq] at e
  obtain ⟨_, _, rfl, ⟨_, rfl⟩, ⟨rfl, e1, rfl⟩, ⟨_, rfl⟩, ⟨rfl, e2, rfl⟩, _⟩ := e
  exact ⟨ss, kn, e1, e2, h9, h10⟩
def GetPost (b : Nat) (w : World) (A : Hist) (i : Int) (e : Ending) (w' : World) : Prop := ∃ l B c, (getA A i).getD [] = l ∧ e = .returned (.tuple #[.slice B l.length c, .bool (getA A i).isSome]) ∧ l.length ≤ c ∧ Bytes l ∧ Firm b w' (fun W => Kd.C (Kd.int .u8) W B l.length l) ∧ Below w.heap.size w w'
theorem GetPost.none {b : Nat} {w w' : World} {A : Hist} {i : Int} (h : getA A i = none) (hb : Below w.heap.size w w') : GetPost b w A i (.returned (.tuple #[.slice none 0 0, .bool false])) w' :=
  ⟨[], _, _, by rw [h]; rfl, by rw [h]; rfl, Nat.le_refl _, (fun x hx => by cases hx), (fun W _ => Kd.C_nil _ _), hb⟩
theorem GetPost.some {b : Nat} {w w' : World} {A : Hist} {i : Int} {l : List Int} {B : Option Addr} {c : Nat} (h : getA A i = some l) (hc : l.length ≤ c) (hl : Bytes l) (hC : Firm b w' (fun W => Kd.C (Kd.int .u8) W B l.length l)) (hb : Below w.heap.size w w') : GetPost b w A i (.returned (.tuple #[.slice B l.length c, .bool true])) w' :=
  ⟨l, B, c, by rw [h]; rfl, by rw [h]; rfl, hc, hl, hC, hb⟩
set_option maxRecDepth 100000 in
set_option maxHeartbeats 4000000 in
theorem ref_get (w : World) (b : Nat) (hb : b ≤ w.heap.size) (vs : List Value) (A1 A2 : Hist × List Int) (steps : List Step) (h : RT b w vs A1 A2 steps) (hA : ∀ p ∈ A2.1, 0 ≤ p.1 ∧ p.1 < 512) (i : Int) (hi : -9223372036854775808 ≤ i ∧ i ≤ 9223372036854775807) :
    Calls Try.prog 119 #[.agg vs.toArray, .int .i64 i] w (GetPost b w A2.1 i) := by
  obtain ⟨Ah, ch, Ac, cc, isb, x, V1, n1, c1, y, V3, n3, c3, Bh, ch2, Bc, cc2, isb2, x2, V12, n12, c12, y2, V32, n32, c32, L, n, cl, rows, rfl, h1, h2, h3, h4, h5, h6⟩ := h.shape
  clear h h1 h3 h4 h5 h6
  have H2 := Aside0.mk h2
  clear h2
  have hbl := below_alloc (Below.refl w.heap.size w) (.cells #[.slice Ah 512 ch, .slice Ac 512 cc, .bool isb, .int .u64 x, .slice V1 n1 c1, .int .u32 y, .slice V3 n3 c3, .slice Bh 512 ch2, .slice Bc 512 cc2, .bool isb2, .int .u64 x2, .slice V12 n12 c12, .int .u32 y2, .slice V32 n32 c32, .slice L n cl] 100)
  have HZ := Aside0.mk (blk_new w (.cells #[.slice Ah 512 ch, .slice Ac 512 cc, .bool isb, .int .u64 x, .slice V1 n1 c1, .int .u32 y, .slice V3 n3 c3, .slice Bh 512 ch2, .slice Bc 512 cc2, .bool isb2, .int .u64 x2, .slice V12 n12 c12, .int .u32 y2, .slice V32 n32 c32, .slice L n cl] 100))
  go_enter Try.func119, Try.ntmps119
  by_cases h0 : i < 0
  · have hno : getA A2.1 i = none := by
      rcases hq : getA A2.1 i with _ | l
      · rfl
      · have := getA_range hA (i := i) (by rw [hq]; rfl); omega
    go_wp2_with fail
    go_ret2
    exact GetPost.none hno hbl
  · by_cases h511 : i > 511
    · have hno : getA A2.1 i = none := by
        rcases hq : getA A2.1 i with _ | l
        · rfl
        · have := getA_range hA (i := i) (by rw [hq]; rfl); omega
      go_wp2_with fail
      go_ret2
      exact GetPost.none hno hbl
    · obtain ⟨k, rfl⟩ : ∃ k : Nat, i = k := ⟨i.toNat, by omega⟩
      have hk5 : k < 512 := by omega
      obtain ⟨⟨ad, rfl, hbit⟩, hrow⟩ := H2.out.at_ k hk5
      have hL := Leaves.of_below hbl hb
      have hb1 := (hbit.step hL).now
      cases hq : getA A2.1 (k : Int) with
      | none =>
        rw [hq] at hb1
        have hb1 : (w.alloc (.cells #[.slice Ah 512 ch, .slice Ac 512 cc, .bool isb, .int .u64 x, .slice V1 n1 c1, .int .u32 y, .slice V3 n3 c3, .slice (some ad) 512 ch2, .slice Bc 512 cc2, .bool isb2, .int .u64 x2, .slice V12 n12 c12, .int .u32 y2, .slice V32 n32 c32, .slice L n cl] 100)).cell? (ad.add k) = some (.bool false) := hb1
        go_wp2_with fail
        go_ret2
        exact GetPost.none hq hbl
      | some l =>
        rw [hq] at hb1
        have hb1 : (w.alloc (.cells #[.slice Ah 512 ch, .slice Ac 512 cc, .bool isb, .int .u64 x, .slice V1 n1 c1, .int .u32 y, .slice V3 n3 c3, .slice (some ad) 512 ch2, .slice Bc 512 cc2, .bool isb2, .int .u64 x2, .slice V12 n12 c12, .int .u32 y2, .slice V32 n32 c32, .slice L n cl] 100)).cell? (ad.add k) = some (.bool true) := hb1
        obtain ⟨ad2, B, c, rfl, hcell, hlc, hlb, hC⟩ := hrow l hq
        have hc1 := (hcell.step hL).now
        have hC1 := hC.step hL
        go_wp2_with fail
        go_ret2
        exact GetPost.some hq hlc hlb hC1 hbl
set_option maxRecDepth 100000 in
set_option maxHeartbeats 4000000 in
theorem ref_held (w : World) (b : Nat) (hb : b ≤ w.heap.size) (vs : List Value) (A1 A2 : Hist × List Int) (steps : List Step) (h : RT b w vs A1 A2 steps) :
    Calls Try.prog 120 #[.agg vs.toArray] w fun e w' => ∃ v l, e = .returned v ∧ Kd.R (Kd.int .u8) 5 w' w.heap.size (fun _ => True) v l ∧ l.length = 64 ∧ Bytes l ∧ (∀ i, i < 512 → B l i = (getA A2.1 (i : Int)).isSome) ∧ Below w.heap.size w w' := by
  obtain ⟨Ah, ch, Ac, cc, isb, x, V1, n1, c1, y, V3, n3, c3, Bh, ch2, Bc, cc2, isb2, x2, V12, n12, c12, y2, V32, n32, c32, L, n, cl, rows, rfl, h1, h2, h3, h4, h5, h6⟩ := h.shape
  clear h h1 h3 h4 h5 h6
  have hbl := below_alloc (Below.refl w.heap.size w) (.cells #[.slice Ah 512 ch, .slice Ac 512 cc, .bool isb, .int .u64 x, .slice V1 n1 c1, .int .u32 y, .slice V3 n3 c3, .slice Bh 512 ch2, .slice Bc 512 cc2, .bool isb2, .int .u64 x2, .slice V12 n12 c12, .int .u32 y2, .slice V32 n32 c32, .slice L n cl] 100)
  have hz := blk_new w (.cells #[.slice Ah 512 ch, .slice Ac 512 cc, .bool isb, .int .u64 x, .slice V1 n1 c1, .int .u32 y, .slice V3 n3 c3, .slice Bh 512 ch2, .slice Bc 512 cc2, .bool isb2, .int .u64 x2, .slice V12 n12 c12, .int .u32 y2, .slice V32 n32 c32, .slice L n cl] 100)
  have hms : scullerref03_Make.f 1 512 = some (List.replicate 64 0) := by
    obtain ⟨n, hn, e, _, hk⟩ := make_any 512
    have e2 : n = 512 := by
      have : mx 0 (mn (512 : Int) 65536) = 512 := by decide
      rw [this] at e; omega
    subst e2
    exact hk 1 (by omega)
  go_enter Try.func120, Try.ntmps120
  go_wp2_with fail
  generalize hgz : w.heap.size = gz at hz ⊢
  have HM := Aside0.mk (scullerref03_Make.calls 1 512 _ (w.alloc (.cells #[.slice Ah 512 ch, .slice Ac 512 cc, .bool isb, .int .u64 x, .slice V1 n1 c1, .int .u32 y, .slice V3 n3 c3, .slice Bh 512 ch2, .slice Bc 512 cc2, .bool isb2, .int .u64 x2, .slice V12 n12 c12, .int .u32 y2, .slice V32 n32 c32, .slice L n cl] 100)) hms)
  generalize w.alloc (.cells #[.slice Ah 512 ch, .slice Ac 512 cc, .bool isb, .int .u64 x, .slice V1 n1 c1, .int .u32 y, .slice V3 n3 c3, .slice Bh 512 ch2, .slice Bc 512 cc2, .bool isb2, .int .u64 x2, .slice V12 n12 c12, .int .u32 y2, .slice V32 n32 c32, .slice L n cl] 100) = wz at hbl hz HM ⊢
  have HZ := Aside0.mk hz
  have HB0 := Aside0.mk hbl
  have hbz : b ≤ wz.heap.size := Nat.le_trans hb (by have := hbl.size; omega)
  have H2 := Aside0.mk (h2.step (Leaves.of_below hbl hb))
  clear h2 hz hbl hms
  refine HM.out.mono ?_
  rintro e w1 ⟨v0, rfl, hR, hb1⟩
  obtain ⟨A0, c0, e0⟩ := Kd.R_slice hR
  subst e0
  have HR := Aside0.mk hR
  have HB := Aside0.mk hb1
  obtain ⟨l0, hl0⟩ : ∃ l0 : List Int, List.replicate 64 0 = l0 := ⟨_, rfl⟩
  have HL0 : Aside0 (l0.length = 64 ∧ Bytes l0 ∧ ∀ i, B l0 i = false) := ⟨by rw [← hl0]; exact ⟨List.length_replicate, Bytes.zeros 64, B_zeros 64⟩⟩
  rw [hl0] at HR
  generalize hl0n : List.length _ = n0
  have hn0 : n0 = l0.length := by rw [← hl0n, ← hl0]
  subst hn0
  clear hR hb1 HM hl0 hl0n
  go_wp2_with fail
  go_loopw [3, 4] (fun bv iv wr => ∃ (k : Nat) (A : Option Addr) (c : Nat) (l : List Int), k ≤ 512 ∧ bv = .slice A l.length c ∧ iv = .int .i64 k ∧ Aside0 (Kd.R (Kd.int .u8) 5 wr wz.heap.size (fun _ => True) (.slice A l.length c) l) ∧ Aside0 (l.length = 64 ∧ Bytes l ∧ ∀ i, i < 512 → B l i = (decide (i < k) && (getA A2.1 (i : Int)).isSome)) ∧ Aside0 (Below wz.heap.size wz wr))
    (fun _ iv _ => 512 - (intOf iv).toNat)
  case atStart => exact ⟨0, A0, c0, l0, by omega, rfl, rfl, HR, ⟨HL0.out.1, HL0.out.2.1, fun i hi => by rw [HL0.out.2.2 i]; simp⟩, HB⟩
  case round =>
    clear HR HB HL0
    obtain ⟨k, A, c, l, hkl, rfl, rfl, HR, HL, HB⟩ := hrel
    by_cases hlt : k < 512
    · have hlt' : (k : Int) < 512 := by omega
      obtain ⟨⟨ad, e, hbit⟩, _⟩ := H2.out.at_ k hlt
      subst e
      have hb1 := (hbit.step (Leaves.of_below HB.out hbz)).now
      have d7 : wr.cell? ⟨gz, 7, none⟩ = some (.slice (some ad) 512 ch2) := (blk_cell (blk_below HZ.out HB.out) 7).trans rfl
      cases hq : (getA A2.1 (k : Int)).isSome with
      | false =>
        rw [hq] at hb1
        go_wp2_with fail
        go_roundw
        case measure => simp [intOf]; omega
        case rel => exact ⟨k + 1, A, c, l, by omega, rfl, by go_num, HR, ⟨HL.out.1, HL.out.2.1, fun i hi => by
          rw [HL.out.2.2 i hi]
          by_cases e : i = k
          · subst e; rw [hq]; simp
          · congr 1; exact decide_eq_decide.2 ⟨fun q => by omega, fun q => by omega⟩⟩, HB⟩
      | true =>
        rw [hq] at hb1
        have HSET := Aside0.mk (scullerref03_Set.calls 20 A c l (k : Int) (setB l k) wr (Kd.R_reads' HR.out).2.2 (Kd.R_reads' HR.out).2.1 (refset_nat HL.out.2.1 (by have := HL.out.1; omega) (by omega) 20 (by omega)))
        go_wp2_with fail
        refine HSET.out.mono ?_
        rintro e w4 ⟨v4, rfl, hR4, hb4⟩
        obtain ⟨A4, c4, e4⟩ := Kd.R_slice hR4
        subst e4
        have HR4 := Aside0.mk (Kd.R_lower hR4 HB.out.size)
        have HB4 := Aside0.mk (below_step HB.out hb4)
        clear hR4 hb4 HSET hb1 d7 HR HB
        go_wp2_with fail
        go_roundw
        case measure => simp [intOf]; omega
        case rel => exact ⟨k + 1, A4, c4, setB l k, by omega, rfl, by go_num, HR4, ⟨(setB_length l k).trans HL.out.1, setB_bytes HL.out.2.1 k, fun i hi => by
          rw [B_set, HL.out.2.2 i hi, HL.out.1]
          by_cases e : i = k
          · subst e; rw [hq, decide_eq_true (show i = i ∧ i < 8 * 64 by omega), decide_eq_true (show i < i + 1 by omega)]; simp
          · rw [decide_eq_false (show ¬ (k = i ∧ k < 8 * 64) by omega), Bool.or_false]; congr 1; exact decide_eq_decide.2 ⟨fun q => by omega, fun q => by omega⟩⟩, HB4⟩
    · have hlt' : ¬ (k : Int) < 512 := by omega
      go_wp2_with fail
      go_ret
      subst hgz
      exact ⟨_, rfl, l, Kd.R_lower HR.out HB0.out.size, HL.out.1, HL.out.2.1, fun i hi => by rw [HL.out.2.2 i hi, decide_eq_true (show i < k by omega), Bool.true_and], below_step HB0.out HB.out⟩
end Go.Proofs.Ytliohoalackhiaa.T
