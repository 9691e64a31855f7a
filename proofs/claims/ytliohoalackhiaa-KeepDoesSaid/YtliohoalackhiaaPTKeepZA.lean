/- A deed is done to a store, and to the document's. -/
import Derived.Test.YtliohoalackhiaaPTKeepY1
import Derived.Test.YtliohoalackhiaaPTKeepY2
import Derived.Test.YtliohoalackhiaaPTKeepZ1
import Derived.Test.YtliohoalackhiaaPTKeepZ2
import Derived.Test.YtliohoalackhiaaPTx9
namespace Go.Proofs.Ytliohoalackhiaa.T
open Go.ChangeMaps hiding rd
open Go.RowKit Go.Maps Go.Proofs.YtliohoalackhiaaW.PrintWords Go.Proofs.YtliohoalackhiaaW.PrintLast Go.Proofs.YtliohoalackhiaaW.PrintMore Go.Proofs.Ytliohoalackhiaa.Num Go.Proofs.Ytliohoalackhiaa.CrcN
set_option linter.unusedVariables false
set_option linter.unusedSimpArgs false
set_option maxRecDepth 100000 in
set_option maxHeartbeats 64000000 in
theorem deed_put (w : World) (b g m1 m2 : Nat) (lo : Value) (vs : List Value) (A1 A2 : Hist × List Int) (steps : List Step) (nf : Nat) (I : DIn w b g m1 m2 lo vs A1 A2 steps nf) (d : DV) (hd : d.ok b w) (hs : d.fits) (hp : (d.kd % 6 = 3 ∧ ¬ d.i.tmod 3 = 0) ∨ d.kd % 6 = 4 ∨ d.kd % 6 = 5) (htail : ∀ wz, DPre w b g m1 m2 lo vs A1 A2 steps d wz → ∀ v3 v8 v9 v10 v11 v12 v16 v17 v18 v19 v20 v21 v22 v23 v24 v25 v26 v27 v28 v29 v30 v31 v32 v33 v34 v35 v36 v37 v38 v39 v40 v41 v42 v43 v44 v45 v46 v47 v48 v49 v50 v51 v52 v53 v54 v55 v56 v57 v58 v59 v60 v61 v62 v63 v64 v65 v66 v67 v68 v69 v70 v71 v72 v73 v74 v75 v76 v77 v78 v79 v80 v81 v82 v83 v84 v85 v86 v87 v88 v89 v90 v91 v92 v93 v94 v95 v96 v97 v98 v99 v100 v101 v102 v103 v104 v105 v106 v107 v108, Code.wp Try.prog (putOf Try.f65.body) (bodyPost Try.prog Try.f65 (DeedPost b g m1 m2 lo w nf)) ⟨#[.pointer (some ⟨g, 0, none⟩), .agg vs.toArray, .agg d.vals.toArray, v3, .pointer (some ⟨w.heap.size, 0, none⟩), .pointer (some ⟨w.heap.size + 1, 0, none⟩), .pointer (some ⟨w.heap.size + 1 + 1, 0, none⟩), .bool false, v8, v9, v10, v11, v12, undef, undef, undef, v16, v17, v18, v19, v20, v21, v22, v23, v24, v25, v26, v27, v28, v29, v30, v31, v32, v33, v34, v35, v36, v37, v38, v39, v40, v41, v42, v43, v44, v45, v46, v47, v48, v49, v50, v51, v52, v53, v54, v55, v56, v57, v58, v59, v60, v61, v62, v63, v64, v65, v66, v67, v68, v69, v70, v71, v72, v73, v74, v75, v76, v77, v78, v79, v80, v81, v82, v83, v84, v85, v86, v87, v88, v89, v90, v91, v92, v93, v94, v95, v96, v97, v98, v99, v100, v101, v102, v103, v104, v105, v106, v107, v108], []⟩ wz) : DCalls w b g m1 m2 lo vs nf d := by
  obtain ⟨kd, i, B, cB, bs, K, cK, ks, C, cC, cs⟩ := d
  obtain ⟨Ah, ch, Ac, cc, isb, x, V1, n1, c1, y, V3, n3, c3, Bh, ch2, Bc, cc2, isb2, x2, V12, n12, c12, y2, V32, n32, c32, L, n, cl, rows, rfl, -⟩ := I.h.shape
  obtain ⟨wz, hpre⟩ := deed_pre I ⟨kd, i, B, cB, bs, K, cK, ks, C, cC, cs⟩
  have HTL := Aside0.mk (htail wz hpre)
  clear htail
  obtain ⟨HWZ, HBZ, HT, HD, HR, hbw, HSz, HRz⟩ := hpre
  dsimp only [DV.ok, DV.fits] at *
  obtain ⟨hs1, hs2, hs3⟩ := hs
  obtain ⟨hkd, hi, hBC, hBl, hBb, hKC, hKl, hCC, hCl, hCb⟩ := hd
  obtain ⟨hb, hS, -, hf, hnf⟩ := I
  have hf1 := hf.n1
  have hf2 := hf.n2
  have HF := Aside0.mk hf
  have HBC := Aside0.mk hBC
  have HKC := Aside0.mk hKC
  have HCC := Aside0.mk hCC
  have HBb := Aside0.mk hBb
  have HCb := Aside0.mk hCb
  simp only [DV.vals] at HWZ HD
  clear hS hf hBC hKC hCC hBb hCb
  have hm6 : IntKind.u8.wrap (kd.tmod 6) = kd % 6 := u8_mod hkd.1 (by omega) (by omega)
  have hm4 : IntKind.u8.wrap (kd.tmod 4) = kd % 4 := u8_mod hkd.1 (by omega) (by omega)
  have hw3 := tmod_i64 3 (by omega) hi
  unfold DCalls DV.vals
  go_enter Try.func65, Try.ntmps65
  have htl : putOf Try.f65.body = putOf Try.f65.body := rfl
  conv at htl => rhs; whnf
  rw [← htl]
  clear htl
  rcases hp with ⟨h6, h3⟩ | hp
  · go_wp2_with fail
    rw [← HWZ.out]
    apply HTL.out
  · have h60 : ¬ kd % 6 = 0 := by omega
    have h61 : ¬ kd % 6 = 1 := by omega
    have h62 : ¬ kd % 6 = 2 := by omega
    have h63 : ¬ kd % 6 = 3 := by omega
    clear hp
    go_wp2_with fail
    rw [← HWZ.out]
    apply HTL.out
set_option maxRecDepth 100000 in
set_option maxHeartbeats 64000000 in
theorem deed_save (w : World) (b g m1 m2 : Nat) (lo : Value) (vs : List Value) (A1 A2 : Hist × List Int) (steps : List Step) (nf : Nat) (I : DIn w b g m1 m2 lo vs A1 A2 steps nf) (d : DV) (hd : d.ok b w) (hs : d.fits) (h6 : d.kd % 6 = 2) (ss : List Int) (yk : Int) (kn : List Int) (hTK : scullerlaw14_Token.f (d.cs.length + 500001) d.kd d.cs d.kd (d.kd / 3) = some (d.kd, ss, yk, kn)) (hkb : Bytes kn) (hkl : kn.length < 100000) (htail : ∀ wz, DPre w b g m1 m2 lo vs A1 A2 steps d wz → ∀ (wf : World) (hbf : Below wz.heap.size wz wf) (gk : Nat) (D1 : Option Addr) (d1 : Nat) (K3 : Option Addr) (k3 : Nat) (kz : List Int) (hkf : wf.heap[gk]? = some (.cells #[.int .u64 d.kd, .slice D1 ss.length d1, .int .u32 yk, .slice K3 kz.length k3] 66)) (hTR : TokR b wf D1 d1 ss K3 k3 kz) (hkz : Bytes kz) (hzl : kz.length < 140737488355328) (hq : kz = if d.i.tmod 5 = 4 then d.bs else kn) (K2 : Act → World → Prop) (v3 v9 v10 v11 v12 v13 v14 v15 v16 v17 v18 v19 v20 v21 v22 v23 v24 v25 v26 v27 v28 v29 v30 v31 v32 v33 v34 v35 v36 v37 v38 v39 v40 v41 v42 v43 v44 v45 v46 v47 v48 v49 v50 v51 v52 v53 v54 v55 v56 v57 v58 v59 v60 v61 v62 v63 v64 v65 v66 v67 v68 v69 v70 v71 v72 v73 v74 v75 v76 v77 v78 v79 v80 v81 v82 v83 v84 v85 v86 v87 v88 v89 v90 v91 v92 v93 v94 v95 v96 v97 v98 v99 v100 v101 v102 v103 v104 v105 v106 v107 v108 : Value), Code.wp Try.prog (saveOf Try.f65.body) (Exit.inBlock 0 (Exit.then K2 (bodyPost Try.prog Try.f65 (DeedPost b g m1 m2 lo w nf)))) ⟨#[.pointer (some ⟨g, 0, none⟩), .agg vs.toArray, .agg d.vals.toArray, v3, .pointer (some ⟨w.heap.size, 0, none⟩), .pointer (some ⟨w.heap.size + 1, 0, none⟩), .pointer (some ⟨w.heap.size + 1 + 1, 0, none⟩), .bool false, .pointer (some ⟨gk, 0, none⟩), v9, v10, v11, v12, v13, v14, v15, v16, v17, v18, v19, v20, v21, v22, v23, v24, v25, v26, v27, v28, v29, v30, v31, v32, v33, v34, v35, v36, v37, v38, v39, v40, v41, v42, v43, v44, v45, v46, v47, v48, v49, v50, v51, v52, v53, v54, v55, v56, v57, v58, v59, v60, v61, v62, v63, v64, v65, v66, v67, v68, v69, v70, v71, v72, v73, v74, v75, v76, v77, v78, v79, v80, v81, v82, v83, v84, v85, v86, v87, v88, v89, v90, v91, v92, v93, v94, v95, v96, v97, v98, v99, v100, v101, v102, v103, v104, v105, v106, v107, v108], []⟩ wf) : DCalls w b g m1 m2 lo vs nf d := by
  obtain ⟨kd, i, B, cB, bs, K, cK, ks, C, cC, cs⟩ := d
  obtain ⟨Ah, ch, Ac, cc, isb, x, V1, n1, c1, y, V3, n3, c3, Bh, ch2, Bc, cc2, isb2, x2, V12, n12, c12, y2, V32, n32, c32, L, n, cl, rows, rfl, -⟩ := I.h.shape
  obtain ⟨wz, hpre⟩ := deed_pre I ⟨kd, i, B, cB, bs, K, cK, ks, C, cC, cs⟩
  have HTL := Aside0.mk (htail wz hpre)
  clear htail
  obtain ⟨HWZ, HBZ, HT, HD, HR, hbw, HSz, HRz⟩ := hpre
  dsimp only [DV.ok, DV.fits] at *
  obtain ⟨hs1, hs2, hs3⟩ := hs
  obtain ⟨hkd, hi, hBC, hBl, hBb, hKC, hKl, hCC, hCl, hCb⟩ := hd
  obtain ⟨hb, hS, -, hf, hnf⟩ := I
  have hf1 := hf.n1
  have hf2 := hf.n2
  have HF := Aside0.mk hf
  have HBC := Aside0.mk hBC
  have HKC := Aside0.mk hKC
  have HCC := Aside0.mk hCC
  have HBb := Aside0.mk hBb
  have HCb := Aside0.mk hCb
  simp only [DV.vals] at HWZ HD
  clear hS hf hBC hKC hCC hBb hCb
  have hm6 : IntKind.u8.wrap (kd.tmod 6) = kd % 6 := u8_mod hkd.1 (by omega) (by omega)
  have hm4 : IntKind.u8.wrap (kd.tmod 4) = kd % 4 := u8_mod hkd.1 (by omega) (by omega)
  have hw5 := tmod_i64 5 (by omega) hi
  have hq3 : IntKind.u8.wrap (kd.tdiv 3) = kd / 3 := u8_div3 hkd
  have hu64 : IntKind.u64.wrap kd = kd := u64_self hkd
  have HTOK := Aside0.mk (scullerlaw14_Token.calls (cs.length + 500001) kd C cC cs kd (kd / 3) kd ss yk kn wz ((HCC.out.step (Leaves.of_below HBZ.out hb)).now) hCl hTK)
  have HKB := Aside0.mk hkb
  clear hTK hkb
  unfold DCalls DV.vals
  go_enter Try.func65, Try.ntmps65
  have htl : saveOf Try.f65.body = saveOf Try.f65.body := rfl
  conv at htl => rhs; whnf
  rw [← htl]
  clear htl
  go_wp2_with fail
  rw [← HWZ.out]
  refine HTOK.out.mono ?_
  rintro e w1 ⟨u1, u3, rfl, hR1, hR3, hb1⟩
  obtain ⟨D1, d1, e1⟩ := Kd.R_slice hR1
  obtain ⟨D3, d3, e3⟩ := Kd.R_slice hR3
  subst e1 e3
  have hD0 := blk_below HD.out (below_step hb1 (below_alloc (Below.refl w1.heap.size w1) (.cells #[.int .u64 kd, .slice D1 ss.length d1, .int .u32 yk, .slice D3 kn.length d3] 66)))
  obtain ⟨-, i1_, i2_, -, -⟩ := cells5 hD0
  by_cases h5 : i.tmod 5 = 4
  · have hba := below_alloc (Below.refl w1.heap.size w1) (.cells #[.int .u64 kd, .slice D1 ss.length d1, .int .u32 yk, .slice B bs.length cB] 66)
    have HBF := Aside0.mk (below_step hb1 hba)
    have HTR := Aside0.mk (show TokR b _ D1 d1 ss B cB bs from ⟨(Kd.R_reads' hR1).2.1, hBl, (firm_R hR1 (by simp [Kd.int, Kd.scalar])).step (Leaves.of_below hba (Nat.le_trans hbw hb1.size)), HBC.out.step (Leaves.of_below (below_step HBZ.out (below_step hb1 hba)) hb)⟩)
    clear hR1 hR3 hb1 hD0 hba HTOK
    go_wp2_with fail
    apply HTL.out _ HBF.out _ _ _ _ _ _ (blk_new w1 (.cells #[.int .u64 kd, .slice D1 ss.length d1, .int .u32 yk, .slice B bs.length cB] 66)) HTR.out HBb.out (by omega) (by rw [if_pos h5])
  · have hba := below_alloc (Below.refl w1.heap.size w1) (.cells #[.int .u64 kd, .slice D1 ss.length d1, .int .u32 yk, .slice D3 kn.length d3] 66)
    have HBF := Aside0.mk (below_step hb1 hba)
    have HTR := Aside0.mk (show TokR b _ D1 d1 ss D3 d3 kn from ⟨(Kd.R_reads' hR1).2.1, (Kd.R_reads' hR3).2.1, (firm_R hR1 (by simp [Kd.int, Kd.scalar])).step (Leaves.of_below hba (Nat.le_trans hbw hb1.size)), (firm_R hR3 (by simp [Kd.int, Kd.scalar])).step (Leaves.of_below hba (Nat.le_trans hbw hb1.size))⟩)
    clear hR1 hR3 hb1 hD0 hba HTOK
    go_wp2_with fail
    apply HTL.out _ HBF.out _ _ _ _ _ _ (blk_new w1 (.cells #[.int .u64 kd, .slice D1 ss.length d1, .int .u32 yk, .slice D3 kn.length d3] 66)) HTR.out HKB.out (by omega) (by rw [if_neg h5])
end Go.Proofs.Ytliohoalackhiaa.T
