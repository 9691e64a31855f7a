/- A deed is done to a store, and to the document's. -/
import Derived.Test.YtliohoalackhiaaPTKeepX
import Derived.Test.YtliohoalackhiaaPTTAre
import Derived.Test.YtliohoalackhiaaPW
namespace Go.Proofs.Ytliohoalackhiaa.T
open Go.ChangeMaps hiding rd
open Go.RowKit Go.Maps Go.Proofs.YtliohoalackhiaaW.PrintWords Go.Proofs.YtliohoalackhiaaW.PrintLast Go.Proofs.YtliohoalackhiaaW.PrintMore Go.Proofs.Ytliohoalackhiaa.Num Go.Proofs.Ytliohoalackhiaa.CrcN
set_option linter.unusedVariables false
set_option linter.unusedSimpArgs false
def deedZ2.T13 : Bool × List (List Nat × List Nat) := (true, [([], []), ([], []), ([], []), ([1, 2], [1, 2]), ([], []), ([3, 4], [3, 4]), ([0, 3, 0], [0]), ([5, 6, 0, 1, 2, 3, 4, 5, 6], [5])])
def deedZ2.B13 : List Nat := [0, 0, 0, 6, 0, 30, 15, 127]
theorem deedZ2.tab13 : rtab .any (opsOf Try.f65 13) = deedZ2.T13 := by kernel_rfl
theorem deedZ2.bits13 : waitsOk deedZ2.T13.2 deedZ2.B13 = true := by kernel_rfl
set_option maxRecDepth 100000 in
set_option maxHeartbeats 64000000 in
theorem save_no (w : World) (b g m1 m2 : Nat) (lo : Value) (vs : List Value) (A1 A2 : Hist × List Int) (steps : List Step) (nf : Nat) (I : DIn w b g m1 m2 lo vs A1 A2 steps nf) (d : DV) (hd : d.ok b w) (hs : d.fits) (wz : World) (hwz : DPre w b g m1 m2 lo vs A1 A2 steps d wz) (wf : World) (hbf : Below wz.heap.size wz wf) (gk : Nat) (D1 : Option Addr) (d1 : Nat) (ss : List Int) (yk : Int) (K3 : Option Addr) (k3 : Nat) (kz : List Int) (hkf : wf.heap[gk]? = some (.cells #[.int .u64 d.kd, .slice D1 ss.length d1, .int .u32 yk, .slice K3 kz.length k3] 66)) (hTR : TokR b wf D1 d1 ss K3 k3 kz) (hkz : Bytes kz) (hzl : kz.length < 140737488355328) (hyk : 0 ≤ yk ∧ yk ≤ 4294967295) (hok : ¬ TokOK ss kz) (K2 : Act → World → Prop) (v3 v9 v10 v11 v12 v13 v14 v15 v16 v17 v18 v19 v20 v21 v22 v23 v24 v25 v26 v27 v28 v29 v30 v31 v32 v33 v34 v35 v36 v37 v38 v39 v40 v41 v42 v43 v44 v45 v46 v47 v48 v49 v50 v51 v52 v53 v54 v55 v56 v57 v58 v59 v60 v61 v62 v63 v64 v65 v66 v67 v68 v69 v70 v71 v72 v73 v74 v75 v76 v77 v78 v79 v80 v81 v82 v83 v84 v85 v86 v87 v88 v89 v90 v91 v92 v93 v94 v95 v96 v97 v98 v99 v100 v101 v102 v103 v104 v105 v106 v107 v108 : Value) : Code.wp Try.prog (saveOf Try.f65.body) (Exit.inBlock 0 (Exit.then K2 (bodyPost Try.prog Try.f65 (DeedPost b g m1 m2 lo w nf)))) ⟨#[.pointer (some ⟨g, 0, none⟩), .agg vs.toArray, .agg d.vals.toArray, v3, .pointer (some ⟨w.heap.size, 0, none⟩), .pointer (some ⟨w.heap.size + 1, 0, none⟩), .pointer (some ⟨w.heap.size + 1 + 1, 0, none⟩), .bool false, .pointer (some ⟨gk, 0, none⟩), v9, v10, v11, v12, v13, v14, v15, v16, v17, v18, v19, v20, v21, v22, v23, v24, v25, v26, v27, v28, v29, v30, v31, v32, v33, v34, v35, v36, v37, v38, v39, v40, v41, v42, v43, v44, v45, v46, v47, v48, v49, v50, v51, v52, v53, v54, v55, v56, v57, v58, v59, v60, v61, v62, v63, v64, v65, v66, v67, v68, v69, v70, v71, v72, v73, v74, v75, v76, v77, v78, v79, v80, v81, v82, v83, v84, v85, v86, v87, v88, v89, v90, v91, v92, v93, v94, v95, v96, v97, v98, v99, v100, v101, v102, v103, v104, v105, v106, v107, v108], []⟩ wf := by
  obtain ⟨kd, i, B, cB, bs, K, cK, ks, C, cC, cs⟩ := d
  obtain ⟨Ah, ch, Ac, cc, isb, x, V1, n1, c1, y, V3, n3, c3, Bh, ch2, Bc, cc2, isb2, x2, V12, n12, c12, y2, V32, n32, c32, L, n, cl, rows, rfl, -⟩ := I.h.shape
  obtain ⟨HWZ, HBZ, HT, HD, HR, hbw, HSz, HRz⟩ := hwz
  dsimp only [DV.ok, DV.fits] at *
  obtain ⟨hs1, hs2, hs3⟩ := hs
  obtain ⟨hkd, hi, hBC, hBl, hBb, hKC, hKl, hCC, hCl, hCb⟩ := hd
  obtain ⟨hb, hS, -, hf, hnf⟩ := I
  have hf1 := hf.n1
  have hf2 := hf.n2
  have HF := Aside0.mk hf
  have HBC := Aside0.mk hBC
  have HKC := Aside0.mk hKC
  have HCC := Aside0.mk hCC
  have HBb := Aside0.mk hBb
  have HCb := Aside0.mk hCb
  simp only [DV.vals] at HWZ HD
  clear hS hf hBC hKC hCC hBb hCb
  have hm6 : IntKind.u8.wrap (kd.tmod 6) = kd % 6 := u8_mod hkd.1 (by omega) (by omega)
  have hm4 : IntKind.u8.wrap (kd.tmod 4) = kd % 4 := u8_mod hkd.1 (by omega) (by omega)
  have HKZ := Aside0.mk hkz
  have HTR := Aside0.mk hTR
  have HBF := Aside0.mk hbf
  have HKF := Aside0.mk hkf
  have hbw1 := Nat.le_trans hbw hbf.size
  have HRTf := Aside0.mk (HRz.out.step (Leaves.of_below hbf hbw))
  have HTf := Aside0.mk (blk_below HT.out hbf)
  obtain ⟨rr, hrr, hrq⟩ := rtokRight_eq kd ss yk kz hkz (8 * kz.length + 31) (by omega)
  obtain rfl : rr = false := by cases rr with | true => exact absurd (hrq.1 rfl) hok | false => rfl
  have HDO := Aside0.mk (do_no_save _ b hbw1 _ A1 A2 steps HRTf.out kd D1 d1 ss yk K3 k3 kz hTR hrr)
  clear hkz hTR hbf hkf hrr hrq
  conv => arg 2; whnf
  unfold DV.vals
  obtain ⟨t0, t1, t2, t3, t4, t5, t6, t7, t8, t9, t10, t11, t12, t13, t14⟩ := cells15 HTf.out
  obtain ⟨k0, k1, k2, k4⟩ := cells4 HKF.out
  go_wp2_with fail
  clear t0 t1 t2 t3 t4 t5 t6 t7 t8 t9 t10 t11 t12 t13 t14 k0 k1 k2 k4
  refine HDO.out.mono ?_
  rintro e w4 ⟨rfl, hb2⟩
  have hq := HRTf.out.step (Leaves.of_below hb2 hbw1)
  have hba := below_alloc (Below.refl w4.heap.size w4) (.cells #[.slice Ah 512 ch, .slice Ac 512 cc, .bool isb, .int .u64 x, .slice V1 n1 c1, .int .u32 y, .slice V3 n3 c3, .slice Bh 512 ch2, .slice Bc 512 cc2, .bool isb2, .int .u64 x2, .slice V12 n12 c12, .int .u32 y2, .slice V32 n32 c32, .slice L n cl] 100)
  have hb24 := below_step hb2 hba
  have HRT3 := Aside0.mk (hq.step (Leaves.of_below hba (Nat.le_trans hbw1 hb2.size)))
  have HS3 := Aside0.mk ((HSz.out.below HBF.out).below hb24)
  have HM3 := Aside0.mk (Mv.of_below (below_step HBZ.out (below_step HBF.out hb24)) (Own g m1 m2 lo))
  have HR3 := Aside0.mk (blk_below (blk_below HR.out HBF.out) hb24)
  have HK3 := Aside0.mk (blk_below HKF.out hb24)
  have HQ3 := Aside0.mk (blk_new w4 (.cells #[.slice Ah 512 ch, .slice Ac 512 cc, .bool isb, .int .u64 x, .slice V1 n1 c1, .int .u32 y, .slice V3 n3 c3, .slice Bh 512 ch2, .slice Bc 512 cc2, .bool isb2, .int .u64 x2, .slice V12 n12 c12, .int .u32 y2, .slice V32 n32 c32, .slice L n cl] 100))
  have hb3 := Nat.le_trans hbw1 hb24.size
  have HTR3 := Aside0.mk (HTR.out.step (Leaves.of_below hb24 hbw1))
  clear hq hb2 hba hb24 HDO
  go_wp2_with fail
  generalize w4.heap.size = gq at HQ3 ⊢
  generalize w4.alloc (.cells #[.slice Ah 512 ch, .slice Ac 512 cc, .bool isb, .int .u64 x, .slice V1 n1 c1, .int .u32 y, .slice V3 n3 c3, .slice Bh 512 ch2, .slice Bc 512 cc2, .bool isb2, .int .u64 x2, .slice V12 n12 c12, .int .u32 y2, .slice V32 n32 c32, .slice L n cl] 100) = w3 at HRT3 HS3 HM3 HR3 HK3 HQ3 HTR3 hb3 ⊢
  have HSd := Aside0.mk (HS3.out.below (below_drew1 (Below.refl w3.heap.size w3)))
  have HTRd := Aside0.mk (HTR3.out.step (Leaves.of_below (below_drew1 (Below.refl w3.heap.size w3)) hb3))
  have HSAVE := Aside0.mk (keep_save_no w3.drew g kd D1 d1 ss yk K3 k3 kz HTRd.out.2.2.1.now HTRd.out.1 HTRd.out.2.2.2.now HTRd.out.2.1 100 [] 1 (enc_no hok HKZ.out (by omega) 100 (by omega)) (by decide))
  refine start_ (n := 8) (S := fun w' => S15 gq (.slice Ah 512 ch) (.slice Ac 512 cc) (.bool isb) (.int .u64 x) (.slice V1 n1 c1) (.int .u32 y) (.slice V3 n3 c3) (.slice Bh 512 ch2) (.slice Bc 512 cc2) (.bool isb2) (.int .u64 x2) (.slice V12 n12 c12) (.int .u32 y2) (.slice V32 n32 c32) (.slice L n cl) w' ∧ S4 gk (.int .u64 kd) (.slice D1 ss.length d1) (.int .u32 yk) (.slice K3 kz.length k3) w') (ds := [6]) (Far.bm 8 0) (by kernel_rfl) rfl rfl ⟨cells15 HQ3.out, cells4 HK3.out⟩ (fun hHeld => ?_)
  refine with_tabW deedZ2.tab13 deedZ2.bits13 (fun HT_ HW_ => ?_)
  refine pure_ (i := 1) (N := some 63) (v := ?_) (a' := ?_) (Far.bm 8 2) rfl rfl (any_of HT_.out (by kernel_rfl)) (fun _ _ _ h => h) (Or.inl ⟨by rfl, ?_⟩) ?_ ?_; rotate_left; (intro w'; go_simp; with_reducible rfl); rotate_left; (simp only [Act.put, List.setIfInBounds_toArray, List.set_cons_zero, List.set_cons_succ, i64_w, i32_w]; rfl)
  refine pure_ (i := 4) (N := some 66) (v := ?_) (a' := ?_) (Far.bm 8 18) rfl rfl (any_of HT_.out (by kernel_rfl)) (fun _ _ _ h => h) (Or.inl ⟨by rfl, ?_⟩) ?_ ?_; rotate_left; (intro w'; go_simp; with_reducible rfl); rotate_left; (simp only [Act.put, List.setIfInBounds_toArray, List.set_cons_zero, List.set_cons_succ, i64_w, i32_w]; rfl)
  refine take_ (i := 0) (N := some 62) (v := ?_) (a' := ?_) (Far.bm 8 19) rfl rfl (take_ofW HT_.out HW_.out (by kernel_rfl)) (fun _ _ _ h => h) (Or.inl ⟨by rfl, ?_⟩) hHeld ?_ ?_; rotate_left; (rintro w' ⟨⟨s0, s1, s2, s3, s4, s5, s6, s7, s8, s9, s10, s11, s12, s13, s14⟩, k0, k1, k2, k3⟩; go_simp; with_reducible rfl); rotate_left; (simp only [Act.put, List.setIfInBounds_toArray, List.set_cons_zero, List.set_cons_succ, i64_w, i32_w]; rfl)
  refine take_ (i := 2) (N := some 64) (v := ?_) (a' := ?_) (Far.bm 8 23) rfl rfl (take_ofW HT_.out HW_.out (by kernel_rfl)) (fun _ _ _ h => h) (Or.inl ⟨by rfl, ?_⟩) hHeld ?_ ?_; rotate_left; (rintro w' ⟨⟨s0, s1, s2, s3, s4, s5, s6, s7, s8, s9, s10, s11, s12, s13, s14⟩, k0, k1, k2, k3⟩; go_simp; with_reducible rfl); rotate_left; (simp only [Act.put, List.setIfInBounds_toArray, List.set_cons_zero, List.set_cons_succ, i64_w, i32_w]; rfl)
  refine one_ (i := 3) (N := some 65) (Far.bm 8 31) rfl rfl (one_of HT_.out (by kernel_rfl)) (by decide) (fun K hK => ?_)
  refine goes_ Try.func49 (by kernel_rfl) rfl #[.pointer (some ⟨g, 0, none⟩), .agg #[.int .u64 kd, .slice D1 ss.length d1, .int .u32 yk, .slice K3 kz.length k3]] (by rfl) rfl rfl (by first | (simp only [List.map_toArray, List.map_cons, List.map_nil]; done) | (simp only [List.map_toArray, List.map_cons, List.map_nil]; rfl)) ?_
  with_reducible refine (HSAVE.out).mono ?_
  rintro e w2 ⟨rfl, hb2_⟩
  refine ⟨_, rfl, ?_⟩
  have hbd2 := below_step (below_drew1 (Below.refl w3.heap.size w3)) hb2_
  have HM2 := Aside0.mk (HM3.out.below hbd2)
  have HRT2 := Aside0.mk (HRT3.out.step (Leaves.of_below hbd2 hb3))
  have HS2 := Aside0.mk (HS3.out.below hbd2)
  have hQ2 := blk_below HQ3.out hbd2
  have hK2 := blk_below HK3.out hbd2
  have hR2 := blk_below HR3.out hbd2
  have HR2 := Aside0.mk hR2
  obtain ⟨z0, z1, z2, z3, z4, z5, z6, z7, z8, z9, z10, z11, z12, z13, z14⟩ := cells15 hR2
  obtain ⟨f0, f1, f2, f3, f4, f5, f6, f7, f8, f9, f10, f11, f12, f13, f14⟩ := frozen15 hR2
  refine hK.out _ _ ⟨cells15 hQ2, cells4 hK2⟩ (fun hHeld => ?_)
  clear hK K
  refine norm_ (a' := ?_) ?_ ?_; rotate_left; (show Act.put _ (some 65) _ = _; simp only [Act.put, List.setIfInBounds_toArray, List.set_cons_zero, List.set_cons_succ, i64_w, i32_w]; rfl)
  refine pure_ (i := 5) (N := some 67) (v := ?_) (a' := ?_) (Far.bm 8 63) rfl rfl (any_of HT_.out (by kernel_rfl)) (fun _ _ _ h => h) (Or.inl ⟨by rfl, ?_⟩) ?_ ?_; rotate_left; (intro w'; go_simp; with_reducible rfl); rotate_left; (simp only [Act.put, List.setIfInBounds_toArray, List.set_cons_zero, List.set_cons_succ, i64_w, i32_w]; rfl)
  refine last_ (i := 6) (N := none) (Far.bm 8 127) rfl rfl (one_of HT_.out (by kernel_rfl)) (by decide) (fun K hK => ?_)
  refine skip_ (w1 := ?_) (by rfl) rfl ?_ ?_
  rotate_left
  · go_simp
    rfl
  refine hK.out _ _ ?_
  clear hK K
  refine pure_ (i := 7) (N := some 7) (v := ?_) (a' := ?_) (Far.bm 8 255) rfl rfl (any_of HT_.out (by kernel_rfl)) (fun _ _ _ h => h) (Or.inl ⟨by rfl, ?_⟩) ?_ ?_; rotate_left; (intro w'; go_simp; with_reducible rfl); rotate_left; (simp only [Act.put, List.setIfInBounds_toArray, List.set_cons_zero, List.set_cons_succ, i64_w, i32_w]; rfl)
  refine done_ (done_of HT_.out (by kernel_rfl)) ?_
  go_wp2_with fail
  have hs := setAll_spec HR2.out [.slice Ah 512 ch, .slice Ac 512 cc, .bool isb, .int .u64 x, .slice V1 n1 c1, .int .u32 y, .slice V3 n3 c3, .slice Bh 512 ch2, .slice Bc 512 cc2, .bool isb2, .int .u64 x2, .slice V12 n12 c12, .int .u32 y2, .slice V32 n32 c32, .slice L n cl] rfl
  rw [setAll15]
  generalize setAll (w2) (w.heap.size + 1 + 1) 0 [.slice Ah 512 ch, .slice Ac 512 cc, .bool isb, .int .u64 x, .slice V1 n1 c1, .int .u32 y, .slice V3 n3 c3, .slice Bh 512 ch2, .slice Bc 512 cc2, .bool isb2, .int .u64 x2, .slice V12 n12 c12, .int .u32 y2, .slice V32 n32 c32, .slice L n cl] = WZ at hs ⊢
  obtain ⟨q0, q1, q2, q3, q4, q5, q6, q7, q8, q9, q10, q11, q12, q13, q14⟩ := cells15 hs.1
  refine bodyPost_ret (v := .tuple #[.agg #[.slice Ah 512 ch, .slice Ac 512 cc, .bool isb, .int .u64 x, .slice V1 n1 c1, .int .u32 y, .slice V3 n3 c3, .slice Bh 512 ch2, .slice Bc 512 cc2, .bool isb2, .int .u64 x2, .slice V12 n12 c12, .int .u32 y2, .slice V32 n32 c32, .slice L n cl], .bool true]) (by simp [results, Try.results65, go_sem, q0, q1, q2, q3, q4, q5, q6, q7, q8, q9, q10, q11, q12, q13, q14]) rfl ?_
  exact ⟨_, _, _, _, _, _, _, rfl, HS2.out.all HR2.out (by decide) hs.2.1, HRT2.out.step (leaves_all HR2.out (.inl rfl) (by omega) hs.2.1), HF.out.stay, HM2.out.all (by omega) hs.2.1 (hs.2.2 _ _ (Nat.zero_le _) (below_zero _))⟩
end Go.Proofs.Ytliohoalackhiaa.T
