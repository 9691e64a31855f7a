/- A deed is done to a store, and to the document's. -/
import Derived.Test.YtliohoalackhiaaPTKKC
import Derived.Test.YtliohoalackhiaaPTKKA
namespace Go.Proofs.Ytliohoalackhiaa.T
open Go.ChangeMaps hiding rd
open Go.RowKit Go.Maps Go.Proofs.YtliohoalackhiaaW.PrintWords Go.Proofs.YtliohoalackhiaaW.PrintLast Go.Proofs.YtliohoalackhiaaW.PrintMore Go.Proofs.Ytliohoalackhiaa.Num Go.Proofs.Ytliohoalackhiaa.CrcN
set_option linter.unusedVariables false
set_option linter.unusedSimpArgs false
structure DV where
  kd : Int
  i : Int
  B : Option Addr
  cB : Nat
  bs : List Int
  K : Option Addr
  cK : Nat
  ks : List Bool
  C : Option Addr
  cC : Nat
  cs : List Int
def DV.vals (d : DV) : List Value := [.int .u8 d.kd, .int .i64 d.i, .slice d.B d.bs.length d.cB, .slice d.K d.ks.length d.cK, .slice d.C d.cs.length d.cC]
def DV.fits (d : DV) : Prop := d.bs.length ≤ 140737488351232 ∧ d.ks.length ≤ 140737488351232 ∧ d.cs.length ≤ 140737488351232
def DV.ok (b : Nat) (w : World) (d : DV) : Prop := (0 ≤ d.kd ∧ d.kd ≤ 255) ∧ (-9223372036854775808 ≤ d.i ∧ d.i ≤ 9223372036854775807) ∧
  Firm b w (fun W => Kd.C (Kd.int .u8) W d.B d.bs.length d.bs) ∧ d.bs.length ≤ d.cB ∧ Bytes d.bs ∧ Firm b w (fun W => Kd.C Kd.bool W d.K d.ks.length d.ks) ∧ d.ks.length ≤ d.cK ∧ Firm b w (fun W => Kd.C (Kd.int .u8) W d.C d.cs.length d.cs) ∧ d.cs.length ≤ d.cC ∧ Bytes d.cs
def DeedPost (b g m1 m2 : Nat) (lo : Value) (w : World) (nf : Nat) (e : Ending) (w' : World) : Prop := ∃ (vs' : List Value) (m1' m2' : Nat) (lo' : Value) (A1' A2' : Hist × List Int) (steps' : List Step), e = .returned (.tuple #[.agg vs'.toArray, .bool true]) ∧ Sto w' b g m1' m2' lo' A1' A2' steps' ∧ RT b w' vs' A1' A2' steps' ∧ Fine (nf + 1) A1' A2' steps' ∧ Mv w w' (Own g m1 m2 lo)
structure DIn (w : World) (b g m1 m2 : Nat) (lo : Value) (vs : List Value) (A1 A2 : Hist × List Int) (steps : List Step) (nf : Nat) : Prop where
  hb : b ≤ w.heap.size
  hS : Sto w b g m1 m2 lo A1 A2 steps
  h : RT b w vs A1 A2 steps
  hf : Fine nf A1 A2 steps
  hnf : nf < 1599300000000
def DCalls (w : World) (b g m1 m2 : Nat) (lo : Value) (vs : List Value) (nf : Nat) (d : DV) : Prop := Calls Try.prog 65 #[.pointer (some ⟨g, 0, none⟩), .agg vs.toArray, .agg d.vals.toArray] w (DeedPost b g m1 m2 lo w nf)
def DPre (w : World) (b g m1 m2 : Nat) (lo : Value) (vs : List Value) (A1 A2 : Hist × List Int) (steps : List Step) (d : DV) (wz : World) : Prop :=
  Aside0 (wz = ((w.alloc (.cells vs.toArray 100)).alloc (.cells d.vals.toArray 105)).alloc (.cells z15 100)) ∧ Aside0 (Below w.heap.size w wz) ∧ Aside0 (wz.heap[w.heap.size]? = some (.cells vs.toArray 100)) ∧ Aside0 (wz.heap[w.heap.size + 1]? = some (.cells d.vals.toArray 105)) ∧ Aside0 (wz.heap[w.heap.size + 1 + 1]? = some (.cells z15 100)) ∧
      b ≤ wz.heap.size ∧ Aside0 (Sto wz b g m1 m2 lo A1 A2 steps) ∧ Aside0 (RT b wz vs A1 A2 steps)
theorem deed_pre {w : World} {b g m1 m2 : Nat} {lo : Value} {vs : List Value} {A1 A2 : Hist × List Int} {steps : List Step} {nf : Nat} (I : DIn w b g m1 m2 lo vs A1 A2 steps nf) (d : DV) : ∃ wz, DPre w b g m1 m2 lo vs A1 A2 steps d wz := by
  have hbz := below_alloc (below_alloc (below_alloc (Below.refl w.heap.size w) (.cells vs.toArray 100)) (.cells d.vals.toArray 105)) (.cells z15 100)
  have hD := blk_alloc (blk_new (w.alloc (.cells vs.toArray 100)) (.cells d.vals.toArray 105)) (.cells z15 100)
  have hR := blk_new ((w.alloc (.cells vs.toArray 100)).alloc (.cells d.vals.toArray 105)) (.cells z15 100)
  rw [World.size_alloc] at hD
  rw [World.size_alloc, World.size_alloc] at hR
  exact ⟨_, ⟨rfl⟩, ⟨hbz⟩, ⟨blk_alloc (blk_alloc (blk_new w _) _) _⟩, ⟨hD⟩, ⟨hR⟩, Nat.le_trans I.hb hbz.size, ⟨I.hS.below hbz⟩, ⟨I.h.step (Leaves.of_below hbz I.hb)⟩⟩
def putOf : Option Code → Code
  | some (.seq _ (.seq _ t)) => t
  | _ => .ret
def saveOf : Option Code → Code
  | some (.seq _ (.seq (.seq _ (.block _ (.seq _ (.cond _ _ (.seq _ (.cond _ _ (.seq _ (.cond _ (.seq _ (.seq _ t)) _)))))))) _)) => t
  | _ => .ret
theorem u8_mod {k m : Int} (h : 0 ≤ k) (hm : 0 < m) (h2 : m ≤ 256) : IntKind.u8.wrap (k.tmod m) = k % m := by
  rw [Int.tmod_eq_emod_of_nonneg h]
  have h1 := Int.emod_nonneg k (show m ≠ 0 by omega)
  have h3 := Int.emod_lt_of_pos k hm
  show (k % m) % 256 = k % m
  omega
theorem u8_div3 {k : Int} (h : 0 ≤ k ∧ k ≤ 255) : IntKind.u8.wrap (k.tdiv 3) = k / 3 := by
  rw [Int.tdiv_eq_ediv_of_nonneg h.1]
  show (k / 3) % 256 = k / 3
  omega
theorem u64_self {k : Int} (h : 0 ≤ k ∧ k ≤ 255) : IntKind.u64.wrap k = k := by
  show k % 18446744073709551616 = k
  omega
theorem tmod_i64 {i : Int} (m : Int) (hm : 0 < m ∧ m ≤ 9) (hi : -9223372036854775808 ≤ i ∧ i ≤ 9223372036854775807) : IntKind.i64.wrap (i.tmod m) = i.tmod m := by
  rw [IntWalk.i64_left, IntWalk.wrap64_in]
  have h1 := Int.tmod_lt_of_pos i hm.1
  have h2 := Int.lt_tmod_of_pos i hm.1
  omega
theorem Leaves.of_kept {b : Nat} {w w' : World} {g m1 m2 : Nat} {lo : Value} {A1 A2 : Hist × List Int} {steps : List Step} (h : Sto w b g m1 m2 lo A1 A2 steps) (hk : Kept w w' (Own g m1 m2 lo)) (hb : b ≤ w.heap.size) : Leaves b w w' := fun k q =>
  hk.2 k (q.elim (fun q => by omega) (fun q => q.lt)) (fun ho => q.elim (fun q => by have := h.base ho; omega) (fun q => by
    obtain ⟨cs, t, fr, hc, n1, n2, _⟩ := q
    exact h.calm ho ⟨cs, t, fr, hc, n1, n2⟩))
theorem Mv.all {w w1 W : World} {S : Nat → Prop} {g : Nat} (mv : Mv w w1 S) (hg : w.heap.size ≤ g) (ho : ∀ k, k ≠ g → W.heap[k]? = w1.heap[k]?) (hB : Below 0 w1 W) : Mv w W S :=
  ⟨mv.b.trans hB, Nat.le_trans mv.b.size hB.size, fun k hk hn => (ho k (by omega)).trans (mv.k.2 k hk hn)⟩
theorem below_zero (w : World) : Below 0 w w := Below.refl 0 w
theorem Sto.all {w W : World} {b g m1 m2 gr : Nat} {lo : Value} {A1 A2 : Hist × List Int} {steps : List Step} {cs : Array Value} {t : TypeId} (h : Sto w b g m1 m2 lo A1 A2 steps) (hg : w.heap[gr]? = some (.cells cs t)) (ht : t ≠ 112 ∧ t ≠ 119 ∧ t ≠ 5 ∧ t ≠ 22 ∧ t ≠ 3) (ho : ∀ k, k ≠ gr → W.heap[k]? = w.heap[k]?) : Sto W b g m1 m2 lo A1 A2 steps :=
  h.step (fun k hk => ho k (fun e => by
    subst e
    obtain ⟨cs', t', hc, ht'⟩ := hk
    rw [hg] at hc
    injection hc with hc
    injection hc with _ e _
    subst e
    rcases ht' with q | q | q
    · exact ht.2.2.1 q
    · exact ht.2.2.2.1 q
    · exact ht.2.2.2.2 q)) (fun k hk => ho k (fun e => by
    subst e
    exact h.calm hk ⟨cs, t, _, hg, ht.1, ht.2.1⟩))
set_option maxRecDepth 100000 in
set_option maxHeartbeats 64000000 in
theorem deed_flush (w : World) (b g m1 m2 : Nat) (lo : Value) (vs : List Value) (A1 A2 : Hist × List Int) (steps : List Step) (nf : Nat) (I : DIn w b g m1 m2 lo vs A1 A2 steps nf) (d : DV) (hd : d.ok b w) (hs : d.fits) (h6 : d.kd % 6 = 0) : DCalls w b g m1 m2 lo vs nf d := by
  obtain ⟨kd, i, B, cB, bs, K, cK, ks, C, cC, cs⟩ := d
  obtain ⟨Ah, ch, Ac, cc, isb, x, V1, n1, c1, y, V3, n3, c3, Bh, ch2, Bc, cc2, isb2, x2, V12, n12, c12, y2, V32, n32, c32, L, n, cl, rows, rfl, -⟩ := I.h.shape
  obtain ⟨wz, HWZ, HBZ, HT, HD, HR, hbw, HSz, HRz⟩ := deed_pre I ⟨kd, i, B, cB, bs, K, cK, ks, C, cC, cs⟩
  dsimp only [DV.ok, DV.fits] at *
  obtain ⟨hs1, hs2, hs3⟩ := hs
  obtain ⟨hkd, hi, hBC, hBl, hBb, hKC, hKl, hCC, hCl, hCb⟩ := hd
  obtain ⟨hb, hS, -, hf, hnf⟩ := I
  have hf1 := hf.n1
  have hf2 := hf.n2
  have HF := Aside0.mk hf
  have HBC := Aside0.mk hBC
  have HKC := Aside0.mk hKC
  have HCC := Aside0.mk hCC
  have HBb := Aside0.mk hBb
  have HCb := Aside0.mk hCb
  simp only [DV.vals] at HWZ HD
  clear hS hf hBC hKC hCC hBb hCb
  have hm6 : IntKind.u8.wrap (kd.tmod 6) = kd % 6 := u8_mod hkd.1 (by omega) (by omega)
  have hm4 : IntKind.u8.wrap (kd.tmod 4) = kd % 4 := u8_mod hkd.1 (by omega) (by omega)
  unfold DCalls DV.vals
  go_enter Try.func65, Try.ntmps65
  go_wp2_with fail
  rw [← HWZ.out]
  refine (keep_flush wz b g _ _ _ _ _ _ HSz.out hbw).mono ?_
  rintro e w1 ⟨⟨rv, rfl⟩, m1f, hS1, hV, _⟩
  have HS1 := Aside0.mk hS1
  have HM1 := Aside0.mk ((Mv.of_below HBZ.out (Own g m1 m2 lo)).trans hV (fun k q => .inl q))
  have HL1 := Aside0.mk (Leaves.of_mv hV HSz.out hbw)
  have HRT1 := Aside0.mk (HRz.out.step HL1.out)
  have hb1 := Nat.le_trans hbw hV.b.size
  have hT1 := blk_mv HT.out hV HSz.out (by decide) (by decide)
  have hD1 := blk_mv HD.out hV HSz.out (by decide) (by decide)
  have HR1 := Aside0.mk (blk_mv HR.out hV HSz.out (by decide) (by decide))
  clear hS1 hV
  obtain ⟨t0, t1, t2, t3, t4, t5, t6, t7, t8, t9, t10, t11, t12, t13, t14⟩ := cells15 hT1
  obtain ⟨d0, d1, d2, d3, d4⟩ := cells5 hD1
  clear hT1 hD1
  go_wp2_with fail
  clear t0 t1 t2 t3 t4 t5 t6 t7 t8 t9 t10 t11 t12 t13 t14 d0 d1 d2 d3 d4
  refine (ref_flush w1 b hb1 _ A1 A2 steps HRT1.out).mono ?_
  rintro e w2 ⟨vs', rfl, hq, hb2⟩
  obtain ⟨Qh, qh, Qc, qc, qsb, qx, QV1, qn1, qc1, qy, QV3, qn3, qc3, Rh, rh, Rc, rc, rsb, rx, RV1, rn1, rc1, ry, RV3, rn3, rc3, QL, qn, qcl, qrows, rfl, -⟩ := hq.shape
  have HRT2 := Aside0.mk hq
  have HS2 := Aside0.mk (HS1.out.below hb2)
  have HM2 := Aside0.mk (HM1.out.below hb2)
  have hR2 := blk_below HR1.out hb2
  have HR2 := Aside0.mk hR2
  clear hq hb2
  obtain ⟨z0, z1, z2, z3, z4, z5, z6, z7, z8, z9, z10, z11, z12, z13, z14⟩ := cells15 hR2
  obtain ⟨f0, f1, f2, f3, f4, f5, f6, f7, f8, f9, f10, f11, f12, f13, f14⟩ := frozen15 hR2
  clear hR2
  go_wp2_with fail
  clear z0 z1 z2 z3 z4 z5 z6 z7 z8 z9 z10 z11 z12 z13 z14 f0 f1 f2 f3 f4 f5 f6 f7 f8 f9 f10 f11 f12 f13 f14
  have hs := setAll_spec HR2.out [.slice Qh 512 qh, .slice Qc 512 qc, .bool qsb, .int .u64 qx, .slice QV1 qn1 qc1, .int .u32 qy, .slice QV3 qn3 qc3, .slice Rh 512 rh, .slice Rc 512 rc, .bool rsb, .int .u64 rx, .slice RV1 rn1 rc1, .int .u32 ry, .slice RV3 rn3 rc3, .slice QL qn qcl] rfl
  rw [setAll15]
  generalize setAll (w2) (w.heap.size + 1 + 1) 0 [.slice Qh 512 qh, .slice Qc 512 qc, .bool qsb, .int .u64 qx, .slice QV1 qn1 qc1, .int .u32 qy, .slice QV3 qn3 qc3, .slice Rh 512 rh, .slice Rc 512 rc, .bool rsb, .int .u64 rx, .slice RV1 rn1 rc1, .int .u32 ry, .slice RV3 rn3 rc3, .slice QL qn qcl] = WZ at hs ⊢
  obtain ⟨q0, q1, q2, q3, q4, q5, q6, q7, q8, q9, q10, q11, q12, q13, q14⟩ := cells15 hs.1
  refine bodyPost_ret (v := .tuple #[.agg #[.slice Qh 512 qh, .slice Qc 512 qc, .bool qsb, .int .u64 qx, .slice QV1 qn1 qc1, .int .u32 qy, .slice QV3 qn3 qc3, .slice Rh 512 rh, .slice Rc 512 rc, .bool rsb, .int .u64 rx, .slice RV1 rn1 rc1, .int .u32 ry, .slice RV3 rn3 rc3, .slice QL qn qcl], .bool true]) (by simp [results, Try.results65, go_sem, q0, q1, q2, q3, q4, q5, q6, q7, q8, q9, q10, q11, q12, q13, q14]) rfl ?_
  exact ⟨_, _, _, _, _, _, _, rfl, HS2.out.all HR2.out (by decide) hs.2.1, HRT2.out.step (leaves_all HR2.out (.inl rfl) (by omega) hs.2.1), HF.out.flush, HM2.out.all (by omega) hs.2.1 (hs.2.2 _ _ (Nat.zero_le _) (below_zero _))⟩
set_option maxRecDepth 100000 in
set_option maxHeartbeats 64000000 in
theorem deed_crash (w : World) (b g m1 m2 : Nat) (lo : Value) (vs : List Value) (A1 A2 : Hist × List Int) (steps : List Step) (nf : Nat) (I : DIn w b g m1 m2 lo vs A1 A2 steps nf) (d : DV) (hd : d.ok b w) (hs : d.fits) (h6 : d.kd % 6 = 1) : DCalls w b g m1 m2 lo vs nf d := by
  obtain ⟨kd, i, B, cB, bs, K, cK, ks, C, cC, cs⟩ := d
  obtain ⟨Ah, ch, Ac, cc, isb, x, V1, n1, c1, y, V3, n3, c3, Bh, ch2, Bc, cc2, isb2, x2, V12, n12, c12, y2, V32, n32, c32, L, n, cl, rows, rfl, -⟩ := I.h.shape
  obtain ⟨wz, HWZ, HBZ, HT, HD, HR, hbw, HSz, HRz⟩ := deed_pre I ⟨kd, i, B, cB, bs, K, cK, ks, C, cC, cs⟩
  dsimp only [DV.ok, DV.fits] at *
  obtain ⟨hs1, hs2, hs3⟩ := hs
  obtain ⟨hkd, hi, hBC, hBl, hBb, hKC, hKl, hCC, hCl, hCb⟩ := hd
  obtain ⟨hb, hS, -, hf, hnf⟩ := I
  have hf1 := hf.n1
  have hf2 := hf.n2
  have HF := Aside0.mk hf
  have HBC := Aside0.mk hBC
  have HKC := Aside0.mk hKC
  have HCC := Aside0.mk hCC
  have HBb := Aside0.mk hBb
  have HCb := Aside0.mk hCb
  simp only [DV.vals] at HWZ HD
  clear hS hf hBC hKC hCC hBb hCb
  have hm6 : IntKind.u8.wrap (kd.tmod 6) = kd % 6 := u8_mod hkd.1 (by omega) (by omega)
  have hm4 : IntKind.u8.wrap (kd.tmod 4) = kd % 4 := u8_mod hkd.1 (by omega) (by omega)
  unfold DCalls DV.vals
  go_enter Try.func65, Try.ntmps65
  go_wp2_with fail
  rw [← HWZ.out]
  refine (keep_crash wz b g _ _ _ _ _ _ HSz.out hbw (by omega) K cK ks (fun w' hk => (HKC.out.step (Leaves.of_below HBZ.out hb)) w' (Leaves.of_kept HSz.out hk hbw)) hKl).mono ?_
  rintro e w1 ⟨⟨rv, rfl⟩, m1f, m2f, hS1, hV, _⟩
  have HS1 := Aside0.mk hS1
  have HM1 := Aside0.mk ((Mv.of_below HBZ.out (Own g m1 m2 lo)).trans hV (fun k q => .inl q))
  have HL1 := Aside0.mk (Leaves.of_mv hV HSz.out hbw)
  have HRT1 := Aside0.mk (HRz.out.step HL1.out)
  have hb1 := Nat.le_trans hbw hV.b.size
  have hT1 := blk_mv HT.out hV HSz.out (by decide) (by decide)
  have hD1 := blk_mv HD.out hV HSz.out (by decide) (by decide)
  have HR1 := Aside0.mk (blk_mv HR.out hV HSz.out (by decide) (by decide))
  clear hS1 hV
  obtain ⟨t0, t1, t2, t3, t4, t5, t6, t7, t8, t9, t10, t11, t12, t13, t14⟩ := cells15 hT1
  obtain ⟨d0, d1, d2, d3, d4⟩ := cells5 hD1
  clear hT1 hD1
  go_wp2_with fail
  clear t0 t1 t2 t3 t4 t5 t6 t7 t8 t9 t10 t11 t12 t13 t14 d0 d1 d2 d3 d4
  refine (ref_crash w1 b hb1 _ A1 A2 steps HRT1.out (by omega) K cK ks (HKC.out.step ((Leaves.of_below HBZ.out hb).trans HL1.out)) hKl).mono ?_
  rintro e w2 ⟨vs', rfl, hq, hb2⟩
  obtain ⟨Qh, qh, Qc, qc, qsb, qx, QV1, qn1, qc1, qy, QV3, qn3, qc3, Rh, rh, Rc, rc, rsb, rx, RV1, rn1, rc1, ry, RV3, rn3, rc3, QL, qn, qcl, qrows, rfl, -⟩ := hq.shape
  have HRT2 := Aside0.mk hq
  have HS2 := Aside0.mk (HS1.out.below hb2)
  have HM2 := Aside0.mk (HM1.out.below hb2)
  have hR2 := blk_below HR1.out hb2
  have HR2 := Aside0.mk hR2
  clear hq hb2
  obtain ⟨z0, z1, z2, z3, z4, z5, z6, z7, z8, z9, z10, z11, z12, z13, z14⟩ := cells15 hR2
  obtain ⟨f0, f1, f2, f3, f4, f5, f6, f7, f8, f9, f10, f11, f12, f13, f14⟩ := frozen15 hR2
  clear hR2
  go_wp2_with fail
  clear z0 z1 z2 z3 z4 z5 z6 z7 z8 z9 z10 z11 z12 z13 z14 f0 f1 f2 f3 f4 f5 f6 f7 f8 f9 f10 f11 f12 f13 f14
  have hs := setAll_spec HR2.out [.slice Qh 512 qh, .slice Qc 512 qc, .bool qsb, .int .u64 qx, .slice QV1 qn1 qc1, .int .u32 qy, .slice QV3 qn3 qc3, .slice Rh 512 rh, .slice Rc 512 rc, .bool rsb, .int .u64 rx, .slice RV1 rn1 rc1, .int .u32 ry, .slice RV3 rn3 rc3, .slice QL qn qcl] rfl
  rw [setAll15]
  generalize setAll (w2) (w.heap.size + 1 + 1) 0 [.slice Qh 512 qh, .slice Qc 512 qc, .bool qsb, .int .u64 qx, .slice QV1 qn1 qc1, .int .u32 qy, .slice QV3 qn3 qc3, .slice Rh 512 rh, .slice Rc 512 rc, .bool rsb, .int .u64 rx, .slice RV1 rn1 rc1, .int .u32 ry, .slice RV3 rn3 rc3, .slice QL qn qcl] = WZ at hs ⊢
  obtain ⟨q0, q1, q2, q3, q4, q5, q6, q7, q8, q9, q10, q11, q12, q13, q14⟩ := cells15 hs.1
  refine bodyPost_ret (v := .tuple #[.agg #[.slice Qh 512 qh, .slice Qc 512 qc, .bool qsb, .int .u64 qx, .slice QV1 qn1 qc1, .int .u32 qy, .slice QV3 qn3 qc3, .slice Rh 512 rh, .slice Rc 512 rc, .bool rsb, .int .u64 rx, .slice RV1 rn1 rc1, .int .u32 ry, .slice RV3 rn3 rc3, .slice QL qn qcl], .bool true]) (by simp [results, Try.results65, go_sem, q0, q1, q2, q3, q4, q5, q6, q7, q8, q9, q10, q11, q12, q13, q14]) rfl ?_
  exact ⟨_, _, _, _, _, _, _, rfl, HS2.out.all HR2.out (by decide) hs.2.1, HRT2.out.step (leaves_all HR2.out (.inl rfl) (by omega) hs.2.1), HF.out.crash ks, HM2.out.all (by omega) hs.2.1 (hs.2.2 _ _ (Nat.zero_le _) (below_zero _))⟩
set_option maxRecDepth 100000 in
set_option maxHeartbeats 64000000 in
theorem deed_clear (w : World) (b g m1 m2 : Nat) (lo : Value) (vs : List Value) (A1 A2 : Hist × List Int) (steps : List Step) (nf : Nat) (I : DIn w b g m1 m2 lo vs A1 A2 steps nf) (d : DV) (hd : d.ok b w) (hs : d.fits) (h6 : d.kd % 6 = 3) (h3i : d.i.tmod 3 = 0) : DCalls w b g m1 m2 lo vs nf d := by
  obtain ⟨kd, i, B, cB, bs, K, cK, ks, C, cC, cs⟩ := d
  obtain ⟨Ah, ch, Ac, cc, isb, x, V1, n1, c1, y, V3, n3, c3, Bh, ch2, Bc, cc2, isb2, x2, V12, n12, c12, y2, V32, n32, c32, L, n, cl, rows, rfl, -⟩ := I.h.shape
  obtain ⟨wz, HWZ, HBZ, HT, HD, HR, hbw, HSz, HRz⟩ := deed_pre I ⟨kd, i, B, cB, bs, K, cK, ks, C, cC, cs⟩
  dsimp only [DV.ok, DV.fits] at *
  obtain ⟨hs1, hs2, hs3⟩ := hs
  obtain ⟨hkd, hi, hBC, hBl, hBb, hKC, hKl, hCC, hCl, hCb⟩ := hd
  obtain ⟨hb, hS, -, hf, hnf⟩ := I
  have hf1 := hf.n1
  have hf2 := hf.n2
  have HF := Aside0.mk hf
  have HBC := Aside0.mk hBC
  have HKC := Aside0.mk hKC
  have HCC := Aside0.mk hCC
  have HBb := Aside0.mk hBb
  have HCb := Aside0.mk hCb
  simp only [DV.vals] at HWZ HD
  clear hS hf hBC hKC hCC hBb hCb
  have hm6 : IntKind.u8.wrap (kd.tmod 6) = kd % 6 := u8_mod hkd.1 (by omega) (by omega)
  have hm4 : IntKind.u8.wrap (kd.tmod 4) = kd % 4 := u8_mod hkd.1 (by omega) (by omega)
  have hw3 := tmod_i64 3 (by omega) hi
  unfold DCalls DV.vals
  go_enter Try.func65, Try.ntmps65
  go_wp2_with fail
  rw [← HWZ.out]
  refine (keep_clear wz b g _ _ _ _ _ _ HSz.out hbw (by omega) (by omega)).mono ?_
  rintro e w1 ⟨⟨rv, rfl⟩, m2f, lof, hS1, hV, _⟩
  have HS1 := Aside0.mk hS1
  have HM1 := Aside0.mk ((Mv.of_below HBZ.out (Own g m1 m2 lo)).trans hV (fun k q => .inl q))
  have HL1 := Aside0.mk (Leaves.of_mv hV HSz.out hbw)
  have HRT1 := Aside0.mk (HRz.out.step HL1.out)
  have hb1 := Nat.le_trans hbw hV.b.size
  have hT1 := blk_mv HT.out hV HSz.out (by decide) (by decide)
  have hD1 := blk_mv HD.out hV HSz.out (by decide) (by decide)
  have HR1 := Aside0.mk (blk_mv HR.out hV HSz.out (by decide) (by decide))
  clear hS1 hV
  obtain ⟨t0, t1, t2, t3, t4, t5, t6, t7, t8, t9, t10, t11, t12, t13, t14⟩ := cells15 hT1
  obtain ⟨d0, d1, d2, d3, d4⟩ := cells5 hD1
  clear hT1 hD1
  go_wp2_with fail
  clear t0 t1 t2 t3 t4 t5 t6 t7 t8 t9 t10 t11 t12 t13 t14 d0 d1 d2 d3 d4
  refine (do_clear w1 b hb1 _ A1 A2 steps HRT1.out (by omega)).mono ?_
  rintro e w3 ⟨vs', rfl, hq, hb2⟩
  obtain ⟨Qh, qh, Qc, qc, qsb, qx, QV1, qn1, qc1, qy, QV3, qn3, qc3, Rh, rh, Rc, rc, rsb, rx, RV1, rn1, rc1, ry, RV3, rn3, rc3, QL, qn, qcl, qrows, rfl, -⟩ := hq.shape
  have hba := below_alloc (Below.refl w3.heap.size w3) (.cells #[.slice Qh 512 qh, .slice Qc 512 qc, .bool qsb, .int .u64 qx, .slice QV1 qn1 qc1, .int .u32 qy, .slice QV3 qn3 qc3, .slice Rh 512 rh, .slice Rc 512 rc, .bool rsb, .int .u64 rx, .slice RV1 rn1 rc1, .int .u32 ry, .slice RV3 rn3 rc3, .slice QL qn qcl] 100)
  have HRT2 := Aside0.mk (hq.step (Leaves.of_below hba (Nat.le_trans hb1 hb2.size)))
  have HS2 := Aside0.mk ((HS1.out.below hb2).below hba)
  have HM2 := Aside0.mk ((HM1.out.below hb2).below hba)
  have hR2 := blk_below (blk_below HR1.out hb2) hba
  have HR2 := Aside0.mk hR2
  clear hq hb2 hba
  obtain ⟨z0, z1, z2, z3, z4, z5, z6, z7, z8, z9, z10, z11, z12, z13, z14⟩ := cells15 hR2
  obtain ⟨f0, f1, f2, f3, f4, f5, f6, f7, f8, f9, f10, f11, f12, f13, f14⟩ := frozen15 hR2
  clear hR2
  go_wp2_with fail
  clear z0 z1 z2 z3 z4 z5 z6 z7 z8 z9 z10 z11 z12 z13 z14 f0 f1 f2 f3 f4 f5 f6 f7 f8 f9 f10 f11 f12 f13 f14
  generalize w3.alloc (.cells #[.slice Qh 512 qh, .slice Qc 512 qc, .bool qsb, .int .u64 qx, .slice QV1 qn1 qc1, .int .u32 qy, .slice QV3 qn3 qc3, .slice Rh 512 rh, .slice Rc 512 rc, .bool rsb, .int .u64 rx, .slice RV1 rn1 rc1, .int .u32 ry, .slice RV3 rn3 rc3, .slice QL qn qcl] 100) = w2 at HRT2 HS2 HM2 HR2 ⊢
  have hs := setAll_spec HR2.out [.slice Qh 512 qh, .slice Qc 512 qc, .bool qsb, .int .u64 qx, .slice QV1 qn1 qc1, .int .u32 qy, .slice QV3 qn3 qc3, .slice Rh 512 rh, .slice Rc 512 rc, .bool rsb, .int .u64 rx, .slice RV1 rn1 rc1, .int .u32 ry, .slice RV3 rn3 rc3, .slice QL qn qcl] rfl
  rw [setAll15]
  generalize setAll (w2) (w.heap.size + 1 + 1) 0 [.slice Qh 512 qh, .slice Qc 512 qc, .bool qsb, .int .u64 qx, .slice QV1 qn1 qc1, .int .u32 qy, .slice QV3 qn3 qc3, .slice Rh 512 rh, .slice Rc 512 rc, .bool rsb, .int .u64 rx, .slice RV1 rn1 rc1, .int .u32 ry, .slice RV3 rn3 rc3, .slice QL qn qcl] = WZ at hs ⊢
  obtain ⟨q0, q1, q2, q3, q4, q5, q6, q7, q8, q9, q10, q11, q12, q13, q14⟩ := cells15 hs.1
  refine bodyPost_ret (v := .tuple #[.agg #[.slice Qh 512 qh, .slice Qc 512 qc, .bool qsb, .int .u64 qx, .slice QV1 qn1 qc1, .int .u32 qy, .slice QV3 qn3 qc3, .slice Rh 512 rh, .slice Rc 512 rc, .bool rsb, .int .u64 rx, .slice RV1 rn1 rc1, .int .u32 ry, .slice RV3 rn3 rc3, .slice QL qn qcl], .bool true]) (by simp [results, Try.results65, go_sem, q0, q1, q2, q3, q4, q5, q6, q7, q8, q9, q10, q11, q12, q13, q14]) rfl ?_
  exact ⟨_, _, _, _, _, _, _, rfl, HS2.out.all HR2.out (by decide) hs.2.1, HRT2.out.step (leaves_all HR2.out (.inl rfl) (by omega) hs.2.1), HF.out.clear, HM2.out.all (by omega) hs.2.1 (hs.2.2 _ _ (Nat.zero_le _) (below_zero _))⟩
end Go.Proofs.Ytliohoalackhiaa.T
