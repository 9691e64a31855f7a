/- The law KeepToken returns true: a token lasts as chunks do; one that may not be is not saved; what is cleared has none: for every session and choices, in whatever memory. Conditions: numbers as their types have them. -/
import Derived.Test.YtliohoalackhiaaHTKeepM
import Derived.Test.YtliohoalackhiaaHTTTok
import Derived.Test.YtliohoalackhiaaHTTAre
namespace Go.Proofs.Ytliohoalackhiaa.T
open Go.ChangeMaps hiding rd
open Go.RowKit Go.Maps Go.Proofs.YtliohoalackhiaaW.PrintWords Go.Proofs.YtliohoalackhiaaW.PrintLast Go.Proofs.YtliohoalackhiaaW.PrintMore Go.Proofs.Ytliohoalackhiaa.Num Go.Proofs.Ytliohoalackhiaa.CrcN
set_option linter.unusedVariables false
set_option linter.unusedSimpArgs false
theorem enc_nil {x : Int} {ss : List Int} {y : Int} {kn : List Int} (h : TokOK ss kn) : token_Encode.f 100 x ss y [] = some ([], 1) :=
  enc_no (fun q => by have h1 := chunksN_pos q.1; have h2 := q.2.1; simp at h2; omega) (fun x hx => by cases hx) (by simp) 100 (by omega)
theorem same_nil : scullerref14_Same.f 100 0 [] 0 [] 0 [] 0 [] = some true := rtokSame_self (fun x hx => by cases hx) (by simp) 100 (by simp)
theorem dec_nil : token_Decode.f 100 [] = some (0, [], 0, [], 10) := by
  unfold token_Decode.f
  rw [if_pos (by simp)]
set_option maxRecDepth 100000 in
set_option maxHeartbeats 8000000 in
theorem token_tt (w : World) (x : Int) (A1 : Option Addr) (c1 : Nat) (c : List Int) (n : Int) (hx : 0 ≤ x ∧ x ≤ 18446744073709551615) (hr1 : Kd.C (Kd.int .u8) w A1 c.length c) (hc1 : c.length ≤ c1) (hcb : Bytes c) (hcl : c.length ≤ 140737488351232) (hn : 0 ≤ n ∧ n ≤ 255) :
    Calls Try.prog 10 #[.int .u64 x, .slice A1 c.length c1, .int .u8 n, .bool true, .bool true] w fun e w' => e = .returned (.bool true) ∧ Below w.heap.size w w' := by
  obtain ⟨ss, y, kn, eT, ht, hbk, hy⟩ := tokG x hx c hcb hcl n 3 hn (by omega) (c.length + 500001) (by omega)
  have HTK := Aside0.mk ht
  have HEN := Aside0.mk (enc_ok ht hbk hy (x := x) 100 (by omega))
  have HDE := Aside0.mk (dec_back ht hbk hx hy 100 (by omega))
  have HNO := Aside0.mk (enc_nil ht (x := x) (y := y))
  have HSM := Aside0.mk (rtokSame_self (x := x) (ss := ss) (y := y) hbk (by have := ((fitsB_iff ss).1 ht.1).2.1; omega) 100 (by have := ((fitsB_iff ss).1 ht.1).2.1; omega))
  generalize sealed (encL x ss y kn) = E at HEN HDE
  clear hcb hcl hbk ht
  go_enter Try.func10, Try.ntmps10
  go_wp2_with fail
  refine (scullerlaw14_Token.calls _ x A1 c1 c n 3 x ss y kn w hr1 hc1 eT).mono ?_
  rintro e w1 ⟨v1, v3, rfl, hR1, hR3, hb⟩
  obtain ⟨B1, d1, e1⟩ := Kd.R_slice hR1
  obtain ⟨B3, d3, e3⟩ := Kd.R_slice hR3
  subst e1 e3
  clear eT hr1
  go_wp2_with fail
  have hb1 := below_alloc (Below.refl w1.heap.size w1) (.cells #[.int .u64 x, .slice B1 ss.length d1, .int .u32 y, .slice B3 kn.length d3] 66)
  have HT := Aside0.mk (blk_new w1 (.cells #[.int .u64 x, .slice B1 ss.length d1, .int .u32 y, .slice B3 kn.length d3] 66))
  have HR1 := Aside0.mk (Kd.C_below (Kd.R_reads' hR1).2.2 hb1)
  have HR3 := Aside0.mk (Kd.C_below (Kd.R_reads' hR3).2.2 hb1)
  have hd1 := (Kd.R_reads' hR1).2.1
  have hd3 := (Kd.R_reads' hR3).2.1
  have HB0 := Aside0.mk (below_step hb hb1)
  generalize hgt : w1.heap.size = gt at HT ⊢
  generalize w1.alloc (.cells #[.int .u64 x, .slice B1 ss.length d1, .int .u32 y, .slice B3 kn.length d3] 66) = wN at hb1 HT HR1 HR3 HB0 ⊢
  clear hb hb1 hR1 hR3 hgt
  refine (keep_new wN).mono ?_
  rintro e w2 ⟨g, m1, m2, rfl, hS, hb_⟩
  have HS := Aside0.mk hS
  have HB := Aside0.mk hb_
  clear hS hb_
  have t0 : (w2).cell? ⟨gt, 0, none⟩ = some (.int .u64 x) := (blk_cell (blk_below HT.out HB.out) 0).trans rfl
  have t1 : (w2).cell? ⟨gt, 1, none⟩ = some (.slice B1 ss.length d1) := (blk_cell (blk_below HT.out HB.out) 1).trans rfl
  have t2 : (w2).cell? ⟨gt, 2, none⟩ = some (.int .u32 y) := (blk_cell (blk_below HT.out HB.out) 2).trans rfl
  have t3 : (w2).cell? ⟨gt, 3, none⟩ = some (.slice B3 kn.length d3) := (blk_cell (blk_below HT.out HB.out) 3).trans rfl
  go_wp2_with fail
  clear t0 t1 t2 t3
  refine (keep_save_ok w2 wN.heap.size g _ _ _ _ _ _ HS.out HB.out.size (by simp) (by simp) x B1 d1 ss y B3 d3 kn (Kd.C_below HR1.out HB.out) hd1 (Kd.C_below HR3.out HB.out) hd3 100 E HEN.out).mono ?_
  rintro e w3 ⟨rfl, m23, lo3, hS, hV, _⟩
  have HSn := Aside0.mk (show Sto w3 wN.heap.size g _ _ _ ([], []) ([], E) [.save E] from hS)
  have HBn := Aside0.mk (hV.lift HS.out HB.out HB.out.size).1
  clear hS hV HS HB 
  have HS := HSn
  have HB := HBn
  clear HSn HBn 
  go_wp2_with fail
  refine (keep_flush w3 wN.heap.size g _ _ _ _ _ _ HS.out HB.out.size).mono ?_
  rintro e w4 ⟨⟨rv4, rfl⟩, m14, hS, hV, _⟩
  have HSn := Aside0.mk (show Sto w4 wN.heap.size g _ _ _ ([], E) ([], E) [] from hS)
  have HBn := Aside0.mk (hV.lift HS.out HB.out HB.out.size).1
  clear hS hV HS HB 
  have HS := HSn
  have HB := HBn
  clear HSn HBn 
  go_wp2_with fail
  have hb0 := below_alloc (Below.refl w4.heap.size w4) (.cells #[.bool false] 4)
  have hc0 := blk_new w4 (.cells #[.bool false] 4)
  generalize hq : w4.heap.size = gk at hc0 ⊢
  generalize w4.alloc (.cells #[.bool false] 4) = wx at hb0 hc0 ⊢
  have hno : ∀ k, Own g _ _ _ k → k ≠ gk := fun k q e => by have := HS.out.lt q; omega
  have HSn := Aside0.mk (HS.out.below hb0)
  have HBn := Aside0.mk (below_step HB.out hb0)
  clear HS HB 
  have HS := HSn
  have HB := HBn
  clear HSn HBn 
  refine (keep_crash wx wN.heap.size g _ _ _ _ _ _ HS.out HB.out.size (by simp) (some ⟨gk, 0, none⟩) 1 [false] (fun w' hk => B_lit [false] (blk_kept hc0 hk (fun q => hno gk q rfl)) rfl (by simp)) (Nat.le_refl _)).mono ?_
  rintro e w5 ⟨⟨rv5, rfl⟩, m15, m25, hS, hV, _⟩
  have HSn := Aside0.mk (show Sto w5 wN.heap.size g _ _ _ ([], E) ([], E) [] from hS)
  have HBn := Aside0.mk (hV.lift HS.out HB.out HB.out.size).1
  clear hS hV HS HB 
  have HS := HSn
  have HB := HBn
  clear HSn HBn 
  clear hb0 hc0 hno hq
  go_wp2_with fail
  refine (keep_token w5 wN.heap.size g _ _ _ _ _ _ HS.out 100 x ss y kn 0 HDE.out).mono ?_
  rintro e w6 ⟨v1x, v3x, rfl, hR1, hR3, hb_⟩
  obtain ⟨B1x, d1x, e1⟩ := Kd.R_slice hR1
  obtain ⟨B3x, d3x, e3⟩ := Kd.R_slice hR3
  subst e1 e3
  have HSn := Aside0.mk (HS.out.below hb_)
  have HBn := Aside0.mk (below_step HB.out hb_)
  clear HS HB 
  have HS := HSn
  have HB := HBn
  clear HSn HBn 
  have hgo := trivial
  have t0 : (w6.alloc (.cells #[.int .u64 x, .slice B1x (ss : List Int).length d1x, .int .u32 y, .slice B3x (kn : List Int).length d3x] 66)).cell? ⟨gt, 0, none⟩ = some (.int .u64 x) := (blk_cell (blk_below (blk_below HT.out HB.out) (below_alloc (Below.refl w6.heap.size w6) (.cells #[.int .u64 x, .slice B1x (ss : List Int).length d1x, .int .u32 y, .slice B3x (kn : List Int).length d3x] 66))) 0).trans rfl
  have t1 : (w6.alloc (.cells #[.int .u64 x, .slice B1x (ss : List Int).length d1x, .int .u32 y, .slice B3x (kn : List Int).length d3x] 66)).cell? ⟨gt, 1, none⟩ = some (.slice B1 ss.length d1) := (blk_cell (blk_below (blk_below HT.out HB.out) (below_alloc (Below.refl w6.heap.size w6) (.cells #[.int .u64 x, .slice B1x (ss : List Int).length d1x, .int .u32 y, .slice B3x (kn : List Int).length d3x] 66))) 1).trans rfl
  have t2 : (w6.alloc (.cells #[.int .u64 x, .slice B1x (ss : List Int).length d1x, .int .u32 y, .slice B3x (kn : List Int).length d3x] 66)).cell? ⟨gt, 2, none⟩ = some (.int .u32 y) := (blk_cell (blk_below (blk_below HT.out HB.out) (below_alloc (Below.refl w6.heap.size w6) (.cells #[.int .u64 x, .slice B1x (ss : List Int).length d1x, .int .u32 y, .slice B3x (kn : List Int).length d3x] 66))) 2).trans rfl
  have t3 : (w6.alloc (.cells #[.int .u64 x, .slice B1x (ss : List Int).length d1x, .int .u32 y, .slice B3x (kn : List Int).length d3x] 66)).cell? ⟨gt, 3, none⟩ = some (.slice B3 kn.length d3) := (blk_cell (blk_below (blk_below HT.out HB.out) (below_alloc (Below.refl w6.heap.size w6) (.cells #[.int .u64 x, .slice B1x (ss : List Int).length d1x, .int .u32 y, .slice B3x (kn : List Int).length d3x] 66))) 3).trans rfl
  go_wp2_with fail
  clear t0 t1 t2 t3 hgo
  have hb2 := (below_alloc (below_alloc (Below.refl w6.heap.size w6) (.cells #[.int .u64 x, .slice B1x (ss : List Int).length d1x, .int .u32 y, .slice B3x (kn : List Int).length d3x] 66)) (.cells #[.int .u64 x, .slice B1 ss.length d1, .int .u32 y, .slice none 0 0] 66))
  have hT2 := (stay_blk (b := wN.heap.size) (blk_alloc (blk_new w6 (.cells #[.int .u64 x, .slice B1x (ss : List Int).length d1x, .int .u32 y, .slice B3x (kn : List Int).length d3x] 66)) (.cells #[.int .u64 x, .slice B1 ss.length d1, .int .u32 y, .slice none 0 0] 66)) (by decide) (by decide)).and ((stay_R (b := wN.heap.size) (Kd.R_below hR1 hb2) (by simp [Kd.int, Kd.scalar])).and (stay_R (b := wN.heap.size) (Kd.R_below hR3 hb2) (by simp [Kd.int, Kd.scalar])))
  have hl1x := (Kd.R_reads' hR1).2.1
  have hl3x := (Kd.R_reads' hR3).2.1
  generalize w6.heap.size = gx at hT2 ⊢
  have HTn := Aside0.mk hT2
  generalize ((w6.alloc (.cells #[.int .u64 x, .slice B1x (ss : List Int).length d1x, .int .u32 y, .slice B3x (kn : List Int).length d3x] 66)).alloc (.cells #[.int .u64 x, .slice B1 ss.length d1, .int .u32 y, .slice none 0 0] 66)) = w8 at hb2 HTn ⊢
  have HSn := Aside0.mk (HS.out.below hb2)
  have HBn := Aside0.mk (below_step HB.out hb2)
  clear HS HB 
  have HS := HSn
  have HB := HBn
  clear HSn HBn 
  have HTx := HTn
  clear HTn hT2 hb2 hR1 hR3 hb_
  refine (keep_save_no w8 g x B1 d1 ss y none 0 [] (Kd.C_below HR1.out HB.out) hd1 (Kd.C_nil _ _) (Nat.le_refl _) 100 [] 1 HNO.out (by decide)).mono ?_
  rintro e w9 ⟨rfl, hb_⟩
  have HSn := Aside0.mk (HS.out.below hb_)
  have HBn := Aside0.mk (below_step HB.out hb_)
  have HTxn := Aside0.mk (HTx.out.step (Keeps.of_below hb_ HB.out.size))
  clear HS HB HTx
  have HS := HSn
  have HB := HBn
  have HTx := HTxn
  clear HSn HBn HTxn
  clear hb_
  go_wp2_with fail
  refine (keep_token w9 wN.heap.size g _ _ _ _ _ _ HS.out 100 x ss y kn 0 HDE.out).mono ?_
  rintro e w10 ⟨v1y, v3y, rfl, hR1, hR3, hb_⟩
  obtain ⟨B1y, d1y, e1⟩ := Kd.R_slice hR1
  obtain ⟨B3y, d3y, e3⟩ := Kd.R_slice hR3
  subst e1 e3
  have HSn := Aside0.mk (HS.out.below hb_)
  have HBn := Aside0.mk (below_step HB.out hb_)
  have HTxn := Aside0.mk (HTx.out.step (Keeps.of_below hb_ HB.out.size))
  clear HS HB HTx
  have HS := HSn
  have HB := HBn
  have HTx := HTxn
  clear HSn HBn HTxn
  go_wp2_with fail
  have hb2 := (below_alloc (Below.refl w10.heap.size w10) (.cells #[.int .u64 x, .slice B1y (ss : List Int).length d1y, .int .u32 y, .slice B3y (kn : List Int).length d3y] 66))
  have hT2 := (stay_blk (b := wN.heap.size) (blk_new w10 (.cells #[.int .u64 x, .slice B1y (ss : List Int).length d1y, .int .u32 y, .slice B3y (kn : List Int).length d3y] 66)) (by decide) (by decide)).and ((stay_R (b := wN.heap.size) (Kd.R_below hR1 hb2) (by simp [Kd.int, Kd.scalar])).and (stay_R (b := wN.heap.size) (Kd.R_below hR3 hb2) (by simp [Kd.int, Kd.scalar])))
  have hl1y := (Kd.R_reads' hR1).2.1
  have hl3y := (Kd.R_reads' hR3).2.1
  generalize w10.heap.size = gy at hT2 ⊢
  have HTn := Aside0.mk hT2
  generalize (w10.alloc (.cells #[.int .u64 x, .slice B1y (ss : List Int).length d1y, .int .u32 y, .slice B3y (kn : List Int).length d3y] 66)) = w11 at hb2 HTn ⊢
  have HSn := Aside0.mk (HS.out.below hb2)
  have HBn := Aside0.mk (below_step HB.out hb2)
  have HTxn := Aside0.mk (HTx.out.step (Keeps.of_below hb2 HB.out.size))
  clear HS HB HTx
  have HS := HSn
  have HB := HBn
  have HTx := HTxn
  clear HSn HBn HTxn
  have HTy := HTn
  clear HTn hT2 hb2 hR1 hR3 hb_
  refine (keep_clear w11 wN.heap.size g _ _ _ _ _ _ HS.out HB.out.size (by simp) (by simp)).mono ?_
  rintro e w12 ⟨⟨rv12, rfl⟩, m212, lo12, hS, hV, _⟩
  have HSn := Aside0.mk (show Sto w12 wN.heap.size g _ _ _ ([], E) ([], []) [.clear] from hS)
  have HBn := Aside0.mk (hV.lift HS.out HB.out HB.out.size).1
  have HTxn := Aside0.mk (HTx.out.step (Keeps.of_mv hV HS.out HB.out.size))
  have HTyn := Aside0.mk (HTy.out.step (Keeps.of_mv hV HS.out HB.out.size))
  clear hS hV HS HB HTx HTy
  have HS := HSn
  have HB := HBn
  have HTx := HTxn
  have HTy := HTyn
  clear HSn HBn HTxn HTyn
  go_wp2_with fail
  refine (keep_token w12 wN.heap.size g _ _ _ _ _ _ HS.out 100 0 [] 0 [] 10 dec_nil).mono ?_
  rintro e w13 ⟨v1z, v3z, rfl, hR1, hR3, hb_⟩
  obtain ⟨B1z, d1z, e1⟩ := Kd.R_slice hR1
  obtain ⟨B3z, d3z, e3⟩ := Kd.R_slice hR3
  subst e1 e3
  have HSn := Aside0.mk (HS.out.below hb_)
  have HBn := Aside0.mk (below_step HB.out hb_)
  have HTxn := Aside0.mk (HTx.out.step (Keeps.of_below hb_ HB.out.size))
  have HTyn := Aside0.mk (HTy.out.step (Keeps.of_below hb_ HB.out.size))
  clear HS HB HTx HTy
  have HS := HSn
  have HB := HBn
  have HTx := HTxn
  have HTy := HTyn
  clear HSn HBn HTxn HTyn
  go_wp2_with fail
  have hb2 := below_alloc (Below.refl w13.heap.size w13) (.cells #[.int .u64 0, .slice B1z 0 d1z, .int .u32 0, .slice B3z 0 d3z] 66)
  generalize w13.heap.size = gz
  generalize w13.alloc (.cells #[.int .u64 0, .slice B1z 0 d1z, .int .u32 0, .slice B3z 0 d3z] 66) = w14 at hb2 ⊢
  have HSn := Aside0.mk (HS.out.below hb2)
  have HBn := Aside0.mk (below_step HB.out hb2)
  have HTxn := Aside0.mk (HTx.out.step (Keeps.of_below hb2 HB.out.size))
  have HTyn := Aside0.mk (HTy.out.step (Keeps.of_below hb2 HB.out.size))
  clear HS HB HTx HTy
  have HS := HSn
  have HB := HBn
  have HTx := HTxn
  have HTy := HTyn
  clear HSn HBn HTxn HTyn
  clear hb2 hR1 hR3 hb_
  refine (keep_known w14).mono ?_
  rintro e w15 ⟨rfl, hb_⟩
  have HSn := Aside0.mk (HS.out.below hb_)
  have HBn := Aside0.mk (below_step HB.out hb_)
  have HTxn := Aside0.mk (HTx.out.step (Keeps.of_below hb_ HB.out.size))
  have HTyn := Aside0.mk (HTy.out.step (Keeps.of_below hb_ HB.out.size))
  clear HS HB HTx HTy
  have HS := HSn
  have HB := HBn
  have HTx := HTxn
  have HTy := HTyn
  clear HSn HBn HTxn HTyn
  clear hb_
  have p0 : (w15).cell? ⟨gx, 0, none⟩ = some (.int .u64 x) := (blk_cell HTx.out.now.1 0).trans rfl
  have p1 : (w15).cell? ⟨gx, 1, none⟩ = some (.slice B1x (ss : List Int).length d1x) := (blk_cell HTx.out.now.1 1).trans rfl
  have p2 : (w15).cell? ⟨gx, 2, none⟩ = some (.int .u32 y) := (blk_cell HTx.out.now.1 2).trans rfl
  have p3 : (w15).cell? ⟨gx, 3, none⟩ = some (.slice B3x (kn : List Int).length d3x) := (blk_cell HTx.out.now.1 3).trans rfl
  have q0 : (w15).cell? ⟨gt, 0, none⟩ = some (.int .u64 x) := (blk_cell (blk_below HT.out HB.out) 0).trans rfl
  have q1 : (w15).cell? ⟨gt, 1, none⟩ = some (.slice B1 ss.length d1) := (blk_cell (blk_below HT.out HB.out) 1).trans rfl
  have q2 : (w15).cell? ⟨gt, 2, none⟩ = some (.int .u32 y) := (blk_cell (blk_below HT.out HB.out) 2).trans rfl
  have q3 : (w15).cell? ⟨gt, 3, none⟩ = some (.slice B3 kn.length d3) := (blk_cell (blk_below HT.out HB.out) 3).trans rfl
  go_wp2_with fail
  refine (scullerref14_Same.calls 100 x B1x d1x ss y B3x d3x kn x B1 d1 ss y B3 d3 kn true w15 HTx.out.now.2.1 hl1x HTx.out.now.2.2 hl3x (Kd.C_below HR1.out HB.out) hd1 (Kd.C_below HR3.out HB.out) hd3 HSM.out).mono ?_
  rintro e w16 ⟨rfl, hb_⟩
  clear p0 p1 p2 p3 q0 q1 q2 q3
  have HSn := Aside0.mk (HS.out.below hb_)
  have HBn := Aside0.mk (below_step HB.out hb_)
  have HTxn := Aside0.mk (HTx.out.step (Keeps.of_below hb_ HB.out.size))
  have HTyn := Aside0.mk (HTy.out.step (Keeps.of_below hb_ HB.out.size))
  clear HS HB HTx HTy
  have HS := HSn
  have HB := HBn
  have HTx := HTxn
  have HTy := HTyn
  clear HSn HBn HTxn HTyn
  clear hb_
  have p0 : (w16).cell? ⟨gx, 0, none⟩ = some (.int .u64 x) := (blk_cell HTx.out.now.1 0).trans rfl
  have p1 : (w16).cell? ⟨gx, 1, none⟩ = some (.slice B1x (ss : List Int).length d1x) := (blk_cell HTx.out.now.1 1).trans rfl
  have p2 : (w16).cell? ⟨gx, 2, none⟩ = some (.int .u32 y) := (blk_cell HTx.out.now.1 2).trans rfl
  have p3 : (w16).cell? ⟨gx, 3, none⟩ = some (.slice B3x (kn : List Int).length d3x) := (blk_cell HTx.out.now.1 3).trans rfl
  have r0 : (w16).cell? ⟨gy, 0, none⟩ = some (.int .u64 x) := (blk_cell HTy.out.now.1 0).trans rfl
  have r1 : (w16).cell? ⟨gy, 1, none⟩ = some (.slice B1y (ss : List Int).length d1y) := (blk_cell HTy.out.now.1 1).trans rfl
  have r2 : (w16).cell? ⟨gy, 2, none⟩ = some (.int .u32 y) := (blk_cell HTy.out.now.1 2).trans rfl
  have r3 : (w16).cell? ⟨gy, 3, none⟩ = some (.slice B3y (kn : List Int).length d3y) := (blk_cell HTy.out.now.1 3).trans rfl
  go_wp2_with fail
  refine (scullerref14_Same.calls 100 x B1x d1x ss y B3x d3x kn x B1y d1y ss y B3y d3y kn true w16 HTx.out.now.2.1 hl1x HTx.out.now.2.2 hl3x HTy.out.now.2.1 hl1y HTy.out.now.2.2 hl3y HSM.out).mono ?_
  rintro e w17 ⟨rfl, hb_⟩
  clear p0 p1 p2 p3 r0 r1 r2 r3
  have HSn := Aside0.mk (HS.out.below hb_)
  have HBn := Aside0.mk (below_step HB.out hb_)
  have HTxn := Aside0.mk (HTx.out.step (Keeps.of_below hb_ HB.out.size))
  have HTyn := Aside0.mk (HTy.out.step (Keeps.of_below hb_ HB.out.size))
  clear HS HB HTx HTy
  have HS := HSn
  have HB := HBn
  have HTx := HTxn
  have HTy := HTyn
  clear HSn HBn HTxn HTyn
  clear hb_
  go_wp2_with fail
  go_ret
  exact ⟨rfl, below_step HB0.out HB.out⟩
set_option maxRecDepth 100000 in
set_option maxHeartbeats 8000000 in
theorem token_tf (w : World) (x : Int) (A1 : Option Addr) (c1 : Nat) (c : List Int) (n : Int) (hx : 0 ≤ x ∧ x ≤ 18446744073709551615) (hr1 : Kd.C (Kd.int .u8) w A1 c.length c) (hc1 : c.length ≤ c1) (hcb : Bytes c) (hcl : c.length ≤ 140737488351232) (hn : 0 ≤ n ∧ n ≤ 255) :
    Calls Try.prog 10 #[.int .u64 x, .slice A1 c.length c1, .int .u8 n, .bool true, .bool false] w fun e w' => e = .returned (.bool true) ∧ Below w.heap.size w w' := by
  obtain ⟨ss, y, kn, eT, ht, hbk, hy⟩ := tokG x hx c hcb hcl n 3 hn (by omega) (c.length + 500001) (by omega)
  have HTK := Aside0.mk ht
  have HEN := Aside0.mk (enc_ok ht hbk hy (x := x) 100 (by omega))
  have HDE := Aside0.mk (dec_back ht hbk hx hy 100 (by omega))
  have HNO := Aside0.mk (enc_nil ht (x := x) (y := y))
  have HSM := Aside0.mk (rtokSame_self (x := x) (ss := ss) (y := y) hbk (by have := ((fitsB_iff ss).1 ht.1).2.1; omega) 100 (by have := ((fitsB_iff ss).1 ht.1).2.1; omega))
  generalize sealed (encL x ss y kn) = E at HEN HDE
  clear hcb hcl hbk ht
  go_enter Try.func10, Try.ntmps10
  go_wp2_with fail
  refine (scullerlaw14_Token.calls _ x A1 c1 c n 3 x ss y kn w hr1 hc1 eT).mono ?_
  rintro e w1 ⟨v1, v3, rfl, hR1, hR3, hb⟩
  obtain ⟨B1, d1, e1⟩ := Kd.R_slice hR1
  obtain ⟨B3, d3, e3⟩ := Kd.R_slice hR3
  subst e1 e3
  clear eT hr1
  go_wp2_with fail
  have hb1 := below_alloc (Below.refl w1.heap.size w1) (.cells #[.int .u64 x, .slice B1 ss.length d1, .int .u32 y, .slice B3 kn.length d3] 66)
  have HT := Aside0.mk (blk_new w1 (.cells #[.int .u64 x, .slice B1 ss.length d1, .int .u32 y, .slice B3 kn.length d3] 66))
  have HR1 := Aside0.mk (Kd.C_below (Kd.R_reads' hR1).2.2 hb1)
  have HR3 := Aside0.mk (Kd.C_below (Kd.R_reads' hR3).2.2 hb1)
  have hd1 := (Kd.R_reads' hR1).2.1
  have hd3 := (Kd.R_reads' hR3).2.1
  have HB0 := Aside0.mk (below_step hb hb1)
  generalize hgt : w1.heap.size = gt at HT ⊢
  generalize w1.alloc (.cells #[.int .u64 x, .slice B1 ss.length d1, .int .u32 y, .slice B3 kn.length d3] 66) = wN at hb1 HT HR1 HR3 HB0 ⊢
  clear hb hb1 hR1 hR3 hgt
  refine (keep_new wN).mono ?_
  rintro e w2 ⟨g, m1, m2, rfl, hS, hb_⟩
  have HS := Aside0.mk hS
  have HB := Aside0.mk hb_
  clear hS hb_
  have t0 : (w2).cell? ⟨gt, 0, none⟩ = some (.int .u64 x) := (blk_cell (blk_below HT.out HB.out) 0).trans rfl
  have t1 : (w2).cell? ⟨gt, 1, none⟩ = some (.slice B1 ss.length d1) := (blk_cell (blk_below HT.out HB.out) 1).trans rfl
  have t2 : (w2).cell? ⟨gt, 2, none⟩ = some (.int .u32 y) := (blk_cell (blk_below HT.out HB.out) 2).trans rfl
  have t3 : (w2).cell? ⟨gt, 3, none⟩ = some (.slice B3 kn.length d3) := (blk_cell (blk_below HT.out HB.out) 3).trans rfl
  go_wp2_with fail
  clear t0 t1 t2 t3
  refine (keep_save_ok w2 wN.heap.size g _ _ _ _ _ _ HS.out HB.out.size (by simp) (by simp) x B1 d1 ss y B3 d3 kn (Kd.C_below HR1.out HB.out) hd1 (Kd.C_below HR3.out HB.out) hd3 100 E HEN.out).mono ?_
  rintro e w3 ⟨rfl, m23, lo3, hS, hV, _⟩
  have HSn := Aside0.mk (show Sto w3 wN.heap.size g _ _ _ ([], []) ([], E) [.save E] from hS)
  have HBn := Aside0.mk (hV.lift HS.out HB.out HB.out.size).1
  clear hS hV HS HB 
  have HS := HSn
  have HB := HBn
  clear HSn HBn 
  go_wp2_with fail
  refine (keep_flush w3 wN.heap.size g _ _ _ _ _ _ HS.out HB.out.size).mono ?_
  rintro e w4 ⟨⟨rv4, rfl⟩, m14, hS, hV, _⟩
  have HSn := Aside0.mk (show Sto w4 wN.heap.size g _ _ _ ([], E) ([], E) [] from hS)
  have HBn := Aside0.mk (hV.lift HS.out HB.out HB.out.size).1
  clear hS hV HS HB 
  have HS := HSn
  have HB := HBn
  clear HSn HBn 
  go_wp2_with fail
  have hb0 := below_alloc (Below.refl w4.heap.size w4) (.cells #[.bool true] 4)
  have hc0 := blk_new w4 (.cells #[.bool true] 4)
  generalize hq : w4.heap.size = gk at hc0 ⊢
  generalize w4.alloc (.cells #[.bool true] 4) = wx at hb0 hc0 ⊢
  have hno : ∀ k, Own g _ _ _ k → k ≠ gk := fun k q e => by have := HS.out.lt q; omega
  have HSn := Aside0.mk (HS.out.below hb0)
  have HBn := Aside0.mk (below_step HB.out hb0)
  clear HS HB 
  have HS := HSn
  have HB := HBn
  clear HSn HBn 
  refine (keep_crash wx wN.heap.size g _ _ _ _ _ _ HS.out HB.out.size (by simp) (some ⟨gk, 0, none⟩) 1 [true] (fun w' hk => B_lit [true] (blk_kept hc0 hk (fun q => hno gk q rfl)) rfl (by simp)) (Nat.le_refl _)).mono ?_
  rintro e w5 ⟨⟨rv5, rfl⟩, m15, m25, hS, hV, _⟩
  have HSn := Aside0.mk (show Sto w5 wN.heap.size g _ _ _ ([], E) ([], E) [] from hS)
  have HBn := Aside0.mk (hV.lift HS.out HB.out HB.out.size).1
  clear hS hV HS HB 
  have HS := HSn
  have HB := HBn
  clear HSn HBn 
  clear hb0 hc0 hno hq
  go_wp2_with fail
  refine (keep_token w5 wN.heap.size g _ _ _ _ _ _ HS.out 100 x ss y kn 0 HDE.out).mono ?_
  rintro e w6 ⟨v1x, v3x, rfl, hR1, hR3, hb_⟩
  obtain ⟨B1x, d1x, e1⟩ := Kd.R_slice hR1
  obtain ⟨B3x, d3x, e3⟩ := Kd.R_slice hR3
  subst e1 e3
  have HSn := Aside0.mk (HS.out.below hb_)
  have HBn := Aside0.mk (below_step HB.out hb_)
  clear HS HB 
  have HS := HSn
  have HB := HBn
  clear HSn HBn 
  have hgo := trivial
  have t0 : (w6.alloc (.cells #[.int .u64 x, .slice B1x (ss : List Int).length d1x, .int .u32 y, .slice B3x (kn : List Int).length d3x] 66)).cell? ⟨gt, 0, none⟩ = some (.int .u64 x) := (blk_cell (blk_below (blk_below HT.out HB.out) (below_alloc (Below.refl w6.heap.size w6) (.cells #[.int .u64 x, .slice B1x (ss : List Int).length d1x, .int .u32 y, .slice B3x (kn : List Int).length d3x] 66))) 0).trans rfl
  have t1 : (w6.alloc (.cells #[.int .u64 x, .slice B1x (ss : List Int).length d1x, .int .u32 y, .slice B3x (kn : List Int).length d3x] 66)).cell? ⟨gt, 1, none⟩ = some (.slice B1 ss.length d1) := (blk_cell (blk_below (blk_below HT.out HB.out) (below_alloc (Below.refl w6.heap.size w6) (.cells #[.int .u64 x, .slice B1x (ss : List Int).length d1x, .int .u32 y, .slice B3x (kn : List Int).length d3x] 66))) 1).trans rfl
  have t2 : (w6.alloc (.cells #[.int .u64 x, .slice B1x (ss : List Int).length d1x, .int .u32 y, .slice B3x (kn : List Int).length d3x] 66)).cell? ⟨gt, 2, none⟩ = some (.int .u32 y) := (blk_cell (blk_below (blk_below HT.out HB.out) (below_alloc (Below.refl w6.heap.size w6) (.cells #[.int .u64 x, .slice B1x (ss : List Int).length d1x, .int .u32 y, .slice B3x (kn : List Int).length d3x] 66))) 2).trans rfl
  have t3 : (w6.alloc (.cells #[.int .u64 x, .slice B1x (ss : List Int).length d1x, .int .u32 y, .slice B3x (kn : List Int).length d3x] 66)).cell? ⟨gt, 3, none⟩ = some (.slice B3 kn.length d3) := (blk_cell (blk_below (blk_below HT.out HB.out) (below_alloc (Below.refl w6.heap.size w6) (.cells #[.int .u64 x, .slice B1x (ss : List Int).length d1x, .int .u32 y, .slice B3x (kn : List Int).length d3x] 66))) 3).trans rfl
  go_wp2_with fail
  clear t0 t1 t2 t3 hgo
  have hb2 := (below_alloc (below_alloc (Below.refl w6.heap.size w6) (.cells #[.int .u64 x, .slice B1x (ss : List Int).length d1x, .int .u32 y, .slice B3x (kn : List Int).length d3x] 66)) (.cells #[.int .u64 x, .slice B1 ss.length d1, .int .u32 y, .slice none 0 0] 66))
  have hT2 := (stay_blk (b := wN.heap.size) (blk_alloc (blk_new w6 (.cells #[.int .u64 x, .slice B1x (ss : List Int).length d1x, .int .u32 y, .slice B3x (kn : List Int).length d3x] 66)) (.cells #[.int .u64 x, .slice B1 ss.length d1, .int .u32 y, .slice none 0 0] 66)) (by decide) (by decide)).and ((stay_R (b := wN.heap.size) (Kd.R_below hR1 hb2) (by simp [Kd.int, Kd.scalar])).and (stay_R (b := wN.heap.size) (Kd.R_below hR3 hb2) (by simp [Kd.int, Kd.scalar])))
  have hl1x := (Kd.R_reads' hR1).2.1
  have hl3x := (Kd.R_reads' hR3).2.1
  generalize w6.heap.size = gx at hT2 ⊢
  have HTn := Aside0.mk hT2
  generalize ((w6.alloc (.cells #[.int .u64 x, .slice B1x (ss : List Int).length d1x, .int .u32 y, .slice B3x (kn : List Int).length d3x] 66)).alloc (.cells #[.int .u64 x, .slice B1 ss.length d1, .int .u32 y, .slice none 0 0] 66)) = w8 at hb2 HTn ⊢
  have HSn := Aside0.mk (HS.out.below hb2)
  have HBn := Aside0.mk (below_step HB.out hb2)
  clear HS HB 
  have HS := HSn
  have HB := HBn
  clear HSn HBn 
  have HTx := HTn
  clear HTn hT2 hb2 hR1 hR3 hb_
  refine (keep_save_no w8 g x B1 d1 ss y none 0 [] (Kd.C_below HR1.out HB.out) hd1 (Kd.C_nil _ _) (Nat.le_refl _) 100 [] 1 HNO.out (by decide)).mono ?_
  rintro e w9 ⟨rfl, hb_⟩
  have HSn := Aside0.mk (HS.out.below hb_)
  have HBn := Aside0.mk (below_step HB.out hb_)
  have HTxn := Aside0.mk (HTx.out.step (Keeps.of_below hb_ HB.out.size))
  clear HS HB HTx
  have HS := HSn
  have HB := HBn
  have HTx := HTxn
  clear HSn HBn HTxn
  clear hb_
  go_wp2_with fail
  refine (keep_token w9 wN.heap.size g _ _ _ _ _ _ HS.out 100 x ss y kn 0 HDE.out).mono ?_
  rintro e w10 ⟨v1y, v3y, rfl, hR1, hR3, hb_⟩
  obtain ⟨B1y, d1y, e1⟩ := Kd.R_slice hR1
  obtain ⟨B3y, d3y, e3⟩ := Kd.R_slice hR3
  subst e1 e3
  have HSn := Aside0.mk (HS.out.below hb_)
  have HBn := Aside0.mk (below_step HB.out hb_)
  have HTxn := Aside0.mk (HTx.out.step (Keeps.of_below hb_ HB.out.size))
  clear HS HB HTx
  have HS := HSn
  have HB := HBn
  have HTx := HTxn
  clear HSn HBn HTxn
  go_wp2_with fail
  have hb2 := (below_alloc (Below.refl w10.heap.size w10) (.cells #[.int .u64 x, .slice B1y (ss : List Int).length d1y, .int .u32 y, .slice B3y (kn : List Int).length d3y] 66))
  have hT2 := (stay_blk (b := wN.heap.size) (blk_new w10 (.cells #[.int .u64 x, .slice B1y (ss : List Int).length d1y, .int .u32 y, .slice B3y (kn : List Int).length d3y] 66)) (by decide) (by decide)).and ((stay_R (b := wN.heap.size) (Kd.R_below hR1 hb2) (by simp [Kd.int, Kd.scalar])).and (stay_R (b := wN.heap.size) (Kd.R_below hR3 hb2) (by simp [Kd.int, Kd.scalar])))
  have hl1y := (Kd.R_reads' hR1).2.1
  have hl3y := (Kd.R_reads' hR3).2.1
  generalize w10.heap.size = gy at hT2 ⊢
  have HTn := Aside0.mk hT2
  generalize (w10.alloc (.cells #[.int .u64 x, .slice B1y (ss : List Int).length d1y, .int .u32 y, .slice B3y (kn : List Int).length d3y] 66)) = w11 at hb2 HTn ⊢
  have HSn := Aside0.mk (HS.out.below hb2)
  have HBn := Aside0.mk (below_step HB.out hb2)
  have HTxn := Aside0.mk (HTx.out.step (Keeps.of_below hb2 HB.out.size))
  clear HS HB HTx
  have HS := HSn
  have HB := HBn
  have HTx := HTxn
  clear HSn HBn HTxn
  have HTy := HTn
  clear HTn hT2 hb2 hR1 hR3 hb_
  refine (keep_clear w11 wN.heap.size g _ _ _ _ _ _ HS.out HB.out.size (by simp) (by simp)).mono ?_
  rintro e w12 ⟨⟨rv12, rfl⟩, m212, lo12, hS, hV, _⟩
  have HSn := Aside0.mk (show Sto w12 wN.heap.size g _ _ _ ([], E) ([], []) [.clear] from hS)
  have HBn := Aside0.mk (hV.lift HS.out HB.out HB.out.size).1
  have HTxn := Aside0.mk (HTx.out.step (Keeps.of_mv hV HS.out HB.out.size))
  have HTyn := Aside0.mk (HTy.out.step (Keeps.of_mv hV HS.out HB.out.size))
  clear hS hV HS HB HTx HTy
  have HS := HSn
  have HB := HBn
  have HTx := HTxn
  have HTy := HTyn
  clear HSn HBn HTxn HTyn
  go_wp2_with fail
  refine (keep_token w12 wN.heap.size g _ _ _ _ _ _ HS.out 100 0 [] 0 [] 10 dec_nil).mono ?_
  rintro e w13 ⟨v1z, v3z, rfl, hR1, hR3, hb_⟩
  obtain ⟨B1z, d1z, e1⟩ := Kd.R_slice hR1
  obtain ⟨B3z, d3z, e3⟩ := Kd.R_slice hR3
  subst e1 e3
  have HSn := Aside0.mk (HS.out.below hb_)
  have HBn := Aside0.mk (below_step HB.out hb_)
  have HTxn := Aside0.mk (HTx.out.step (Keeps.of_below hb_ HB.out.size))
  have HTyn := Aside0.mk (HTy.out.step (Keeps.of_below hb_ HB.out.size))
  clear HS HB HTx HTy
  have HS := HSn
  have HB := HBn
  have HTx := HTxn
  have HTy := HTyn
  clear HSn HBn HTxn HTyn
  go_wp2_with fail
  have hb2 := below_alloc (Below.refl w13.heap.size w13) (.cells #[.int .u64 0, .slice B1z 0 d1z, .int .u32 0, .slice B3z 0 d3z] 66)
  generalize w13.heap.size = gz
  generalize w13.alloc (.cells #[.int .u64 0, .slice B1z 0 d1z, .int .u32 0, .slice B3z 0 d3z] 66) = w14 at hb2 ⊢
  have HSn := Aside0.mk (HS.out.below hb2)
  have HBn := Aside0.mk (below_step HB.out hb2)
  have HTxn := Aside0.mk (HTx.out.step (Keeps.of_below hb2 HB.out.size))
  have HTyn := Aside0.mk (HTy.out.step (Keeps.of_below hb2 HB.out.size))
  clear HS HB HTx HTy
  have HS := HSn
  have HB := HBn
  have HTx := HTxn
  have HTy := HTyn
  clear HSn HBn HTxn HTyn
  clear hb2 hR1 hR3 hb_
  refine (keep_known w14).mono ?_
  rintro e w15 ⟨rfl, hb_⟩
  have HSn := Aside0.mk (HS.out.below hb_)
  have HBn := Aside0.mk (below_step HB.out hb_)
  have HTxn := Aside0.mk (HTx.out.step (Keeps.of_below hb_ HB.out.size))
  have HTyn := Aside0.mk (HTy.out.step (Keeps.of_below hb_ HB.out.size))
  clear HS HB HTx HTy
  have HS := HSn
  have HB := HBn
  have HTx := HTxn
  have HTy := HTyn
  clear HSn HBn HTxn HTyn
  clear hb_
  have p0 : (w15).cell? ⟨gx, 0, none⟩ = some (.int .u64 x) := (blk_cell HTx.out.now.1 0).trans rfl
  have p1 : (w15).cell? ⟨gx, 1, none⟩ = some (.slice B1x (ss : List Int).length d1x) := (blk_cell HTx.out.now.1 1).trans rfl
  have p2 : (w15).cell? ⟨gx, 2, none⟩ = some (.int .u32 y) := (blk_cell HTx.out.now.1 2).trans rfl
  have p3 : (w15).cell? ⟨gx, 3, none⟩ = some (.slice B3x (kn : List Int).length d3x) := (blk_cell HTx.out.now.1 3).trans rfl
  have q0 : (w15).cell? ⟨gt, 0, none⟩ = some (.int .u64 x) := (blk_cell (blk_below HT.out HB.out) 0).trans rfl
  have q1 : (w15).cell? ⟨gt, 1, none⟩ = some (.slice B1 ss.length d1) := (blk_cell (blk_below HT.out HB.out) 1).trans rfl
  have q2 : (w15).cell? ⟨gt, 2, none⟩ = some (.int .u32 y) := (blk_cell (blk_below HT.out HB.out) 2).trans rfl
  have q3 : (w15).cell? ⟨gt, 3, none⟩ = some (.slice B3 kn.length d3) := (blk_cell (blk_below HT.out HB.out) 3).trans rfl
  go_wp2_with fail
  refine (scullerref14_Same.calls 100 x B1x d1x ss y B3x d3x kn x B1 d1 ss y B3 d3 kn true w15 HTx.out.now.2.1 hl1x HTx.out.now.2.2 hl3x (Kd.C_below HR1.out HB.out) hd1 (Kd.C_below HR3.out HB.out) hd3 HSM.out).mono ?_
  rintro e w16 ⟨rfl, hb_⟩
  clear p0 p1 p2 p3 q0 q1 q2 q3
  have HSn := Aside0.mk (HS.out.below hb_)
  have HBn := Aside0.mk (below_step HB.out hb_)
  have HTxn := Aside0.mk (HTx.out.step (Keeps.of_below hb_ HB.out.size))
  have HTyn := Aside0.mk (HTy.out.step (Keeps.of_below hb_ HB.out.size))
  clear HS HB HTx HTy
  have HS := HSn
  have HB := HBn
  have HTx := HTxn
  have HTy := HTyn
  clear HSn HBn HTxn HTyn
  clear hb_
  have p0 : (w16).cell? ⟨gx, 0, none⟩ = some (.int .u64 x) := (blk_cell HTx.out.now.1 0).trans rfl
  have p1 : (w16).cell? ⟨gx, 1, none⟩ = some (.slice B1x (ss : List Int).length d1x) := (blk_cell HTx.out.now.1 1).trans rfl
  have p2 : (w16).cell? ⟨gx, 2, none⟩ = some (.int .u32 y) := (blk_cell HTx.out.now.1 2).trans rfl
  have p3 : (w16).cell? ⟨gx, 3, none⟩ = some (.slice B3x (kn : List Int).length d3x) := (blk_cell HTx.out.now.1 3).trans rfl
  have r0 : (w16).cell? ⟨gy, 0, none⟩ = some (.int .u64 x) := (blk_cell HTy.out.now.1 0).trans rfl
  have r1 : (w16).cell? ⟨gy, 1, none⟩ = some (.slice B1y (ss : List Int).length d1y) := (blk_cell HTy.out.now.1 1).trans rfl
  have r2 : (w16).cell? ⟨gy, 2, none⟩ = some (.int .u32 y) := (blk_cell HTy.out.now.1 2).trans rfl
  have r3 : (w16).cell? ⟨gy, 3, none⟩ = some (.slice B3y (kn : List Int).length d3y) := (blk_cell HTy.out.now.1 3).trans rfl
  go_wp2_with fail
  refine (scullerref14_Same.calls 100 x B1x d1x ss y B3x d3x kn x B1y d1y ss y B3y d3y kn true w16 HTx.out.now.2.1 hl1x HTx.out.now.2.2 hl3x HTy.out.now.2.1 hl1y HTy.out.now.2.2 hl3y HSM.out).mono ?_
  rintro e w17 ⟨rfl, hb_⟩
  clear p0 p1 p2 p3 r0 r1 r2 r3
  have HSn := Aside0.mk (HS.out.below hb_)
  have HBn := Aside0.mk (below_step HB.out hb_)
  have HTxn := Aside0.mk (HTx.out.step (Keeps.of_below hb_ HB.out.size))
  have HTyn := Aside0.mk (HTy.out.step (Keeps.of_below hb_ HB.out.size))
  clear HS HB HTx HTy
  have HS := HSn
  have HB := HBn
  have HTx := HTxn
  have HTy := HTyn
  clear HSn HBn HTxn HTyn
  clear hb_
  go_wp2_with fail
  go_ret
  exact ⟨rfl, below_step HB0.out HB.out⟩
set_option maxRecDepth 100000 in
set_option maxHeartbeats 8000000 in
theorem token_ft (w : World) (x : Int) (A1 : Option Addr) (c1 : Nat) (c : List Int) (n : Int) (hx : 0 ≤ x ∧ x ≤ 18446744073709551615) (hr1 : Kd.C (Kd.int .u8) w A1 c.length c) (hc1 : c.length ≤ c1) (hcb : Bytes c) (hcl : c.length ≤ 140737488351232) (hn : 0 ≤ n ∧ n ≤ 255) :
    Calls Try.prog 10 #[.int .u64 x, .slice A1 c.length c1, .int .u8 n, .bool false, .bool true] w fun e w' => e = .returned (.bool true) ∧ Below w.heap.size w w' := by
  obtain ⟨ss, y, kn, eT, ht, hbk, hy⟩ := tokG x hx c hcb hcl n 3 hn (by omega) (c.length + 500001) (by omega)
  have HTK := Aside0.mk ht
  have HEN := Aside0.mk (enc_ok ht hbk hy (x := x) 100 (by omega))
  have HDE := Aside0.mk (dec_back ht hbk hx hy 100 (by omega))
  have HNO := Aside0.mk (enc_nil ht (x := x) (y := y))
  have HSM := Aside0.mk (rtokSame_self (x := x) (ss := ss) (y := y) hbk (by have := ((fitsB_iff ss).1 ht.1).2.1; omega) 100 (by have := ((fitsB_iff ss).1 ht.1).2.1; omega))
  generalize sealed (encL x ss y kn) = E at HEN HDE
  clear hcb hcl hbk ht
  go_enter Try.func10, Try.ntmps10
  go_wp2_with fail
  refine (scullerlaw14_Token.calls _ x A1 c1 c n 3 x ss y kn w hr1 hc1 eT).mono ?_
  rintro e w1 ⟨v1, v3, rfl, hR1, hR3, hb⟩
  obtain ⟨B1, d1, e1⟩ := Kd.R_slice hR1
  obtain ⟨B3, d3, e3⟩ := Kd.R_slice hR3
  subst e1 e3
  clear eT hr1
  go_wp2_with fail
  have hb1 := below_alloc (Below.refl w1.heap.size w1) (.cells #[.int .u64 x, .slice B1 ss.length d1, .int .u32 y, .slice B3 kn.length d3] 66)
  have HT := Aside0.mk (blk_new w1 (.cells #[.int .u64 x, .slice B1 ss.length d1, .int .u32 y, .slice B3 kn.length d3] 66))
  have HR1 := Aside0.mk (Kd.C_below (Kd.R_reads' hR1).2.2 hb1)
  have HR3 := Aside0.mk (Kd.C_below (Kd.R_reads' hR3).2.2 hb1)
  have hd1 := (Kd.R_reads' hR1).2.1
  have hd3 := (Kd.R_reads' hR3).2.1
  have HB0 := Aside0.mk (below_step hb hb1)
  generalize hgt : w1.heap.size = gt at HT ⊢
  generalize w1.alloc (.cells #[.int .u64 x, .slice B1 ss.length d1, .int .u32 y, .slice B3 kn.length d3] 66) = wN at hb1 HT HR1 HR3 HB0 ⊢
  clear hb hb1 hR1 hR3 hgt
  refine (keep_new wN).mono ?_
  rintro e w2 ⟨g, m1, m2, rfl, hS, hb_⟩
  have HS := Aside0.mk hS
  have HB := Aside0.mk hb_
  clear hS hb_
  have t0 : (w2).cell? ⟨gt, 0, none⟩ = some (.int .u64 x) := (blk_cell (blk_below HT.out HB.out) 0).trans rfl
  have t1 : (w2).cell? ⟨gt, 1, none⟩ = some (.slice B1 ss.length d1) := (blk_cell (blk_below HT.out HB.out) 1).trans rfl
  have t2 : (w2).cell? ⟨gt, 2, none⟩ = some (.int .u32 y) := (blk_cell (blk_below HT.out HB.out) 2).trans rfl
  have t3 : (w2).cell? ⟨gt, 3, none⟩ = some (.slice B3 kn.length d3) := (blk_cell (blk_below HT.out HB.out) 3).trans rfl
  go_wp2_with fail
  clear t0 t1 t2 t3
  refine (keep_save_ok w2 wN.heap.size g _ _ _ _ _ _ HS.out HB.out.size (by simp) (by simp) x B1 d1 ss y B3 d3 kn (Kd.C_below HR1.out HB.out) hd1 (Kd.C_below HR3.out HB.out) hd3 100 E HEN.out).mono ?_
  rintro e w3 ⟨rfl, m23, lo3, hS, hV, _⟩
  have HSn := Aside0.mk (show Sto w3 wN.heap.size g _ _ _ ([], []) ([], E) [.save E] from hS)
  have HBn := Aside0.mk (hV.lift HS.out HB.out HB.out.size).1
  clear hS hV HS HB 
  have HS := HSn
  have HB := HBn
  clear HSn HBn 
  go_wp2_with fail
  have hb0 := below_alloc (Below.refl w3.heap.size w3) (.cells #[.bool false] 4)
  have hc0 := blk_new w3 (.cells #[.bool false] 4)
  generalize hq : w3.heap.size = gk at hc0 ⊢
  generalize w3.alloc (.cells #[.bool false] 4) = wx at hb0 hc0 ⊢
  have hno : ∀ k, Own g _ _ _ k → k ≠ gk := fun k q e => by have := HS.out.lt q; omega
  have HSn := Aside0.mk (HS.out.below hb0)
  have HBn := Aside0.mk (below_step HB.out hb0)
  clear HS HB 
  have HS := HSn
  have HB := HBn
  clear HSn HBn 
  refine (keep_crash wx wN.heap.size g _ _ _ _ _ _ HS.out HB.out.size (by simp) (some ⟨gk, 0, none⟩) 1 [false] (fun w' hk => B_lit [false] (blk_kept hc0 hk (fun q => hno gk q rfl)) rfl (by simp)) (Nat.le_refl _)).mono ?_
  rintro e w5 ⟨⟨rv5, rfl⟩, m15, m25, hS, hV, _⟩
  have HSn := Aside0.mk (show Sto w5 wN.heap.size g _ _ _ ([], []) ([], []) [] from hS)
  have HBn := Aside0.mk (hV.lift HS.out HB.out HB.out.size).1
  clear hS hV HS HB 
  have HS := HSn
  have HB := HBn
  clear HSn HBn 
  clear hb0 hc0 hno hq
  go_wp2_with fail
  refine (keep_token w5 wN.heap.size g _ _ _ _ _ _ HS.out 100 0 [] 0 [] 10 dec_nil).mono ?_
  rintro e w6 ⟨v1x, v3x, rfl, hR1, hR3, hb_⟩
  obtain ⟨B1x, d1x, e1⟩ := Kd.R_slice hR1
  obtain ⟨B3x, d3x, e3⟩ := Kd.R_slice hR3
  subst e1 e3
  have HSn := Aside0.mk (HS.out.below hb_)
  have HBn := Aside0.mk (below_step HB.out hb_)
  clear HS HB 
  have HS := HSn
  have HB := HBn
  clear HSn HBn 
  have hgo := trivial
  have t0 : (w6.alloc (.cells #[.int .u64 0, .slice B1x 0 d1x, .int .u32 0, .slice B3x 0 d3x] 66)).cell? ⟨gt, 0, none⟩ = some (.int .u64 x) := (blk_cell (blk_below (blk_below HT.out HB.out) (below_alloc (Below.refl w6.heap.size w6) (.cells #[.int .u64 0, .slice B1x 0 d1x, .int .u32 0, .slice B3x 0 d3x] 66))) 0).trans rfl
  have t1 : (w6.alloc (.cells #[.int .u64 0, .slice B1x 0 d1x, .int .u32 0, .slice B3x 0 d3x] 66)).cell? ⟨gt, 1, none⟩ = some (.slice B1 ss.length d1) := (blk_cell (blk_below (blk_below HT.out HB.out) (below_alloc (Below.refl w6.heap.size w6) (.cells #[.int .u64 0, .slice B1x 0 d1x, .int .u32 0, .slice B3x 0 d3x] 66))) 1).trans rfl
  have t2 : (w6.alloc (.cells #[.int .u64 0, .slice B1x 0 d1x, .int .u32 0, .slice B3x 0 d3x] 66)).cell? ⟨gt, 2, none⟩ = some (.int .u32 y) := (blk_cell (blk_below (blk_below HT.out HB.out) (below_alloc (Below.refl w6.heap.size w6) (.cells #[.int .u64 0, .slice B1x 0 d1x, .int .u32 0, .slice B3x 0 d3x] 66))) 2).trans rfl
  have t3 : (w6.alloc (.cells #[.int .u64 0, .slice B1x 0 d1x, .int .u32 0, .slice B3x 0 d3x] 66)).cell? ⟨gt, 3, none⟩ = some (.slice B3 kn.length d3) := (blk_cell (blk_below (blk_below HT.out HB.out) (below_alloc (Below.refl w6.heap.size w6) (.cells #[.int .u64 0, .slice B1x 0 d1x, .int .u32 0, .slice B3x 0 d3x] 66))) 3).trans rfl
  go_wp2_with fail
  clear t0 t1 t2 t3 hgo
  have hb2 := (below_alloc (below_alloc (Below.refl w6.heap.size w6) (.cells #[.int .u64 0, .slice B1x 0 d1x, .int .u32 0, .slice B3x 0 d3x] 66)) (.cells #[.int .u64 x, .slice B1 ss.length d1, .int .u32 y, .slice none 0 0] 66))
  have hT2 := (stay_blk (b := wN.heap.size) (blk_alloc (blk_new w6 (.cells #[.int .u64 0, .slice B1x 0 d1x, .int .u32 0, .slice B3x 0 d3x] 66)) (.cells #[.int .u64 x, .slice B1 ss.length d1, .int .u32 y, .slice none 0 0] 66)) (by decide) (by decide)).and ((stay_R (b := wN.heap.size) (Kd.R_below hR1 hb2) (by simp [Kd.int, Kd.scalar])).and (stay_R (b := wN.heap.size) (Kd.R_below hR3 hb2) (by simp [Kd.int, Kd.scalar])))
  have hl1x := (Kd.R_reads' hR1).2.1
  have hl3x := (Kd.R_reads' hR3).2.1
  generalize w6.heap.size = gx at hT2 ⊢
  have HTn := Aside0.mk hT2
  generalize ((w6.alloc (.cells #[.int .u64 0, .slice B1x 0 d1x, .int .u32 0, .slice B3x 0 d3x] 66)).alloc (.cells #[.int .u64 x, .slice B1 ss.length d1, .int .u32 y, .slice none 0 0] 66)) = w8 at hb2 HTn ⊢
  have HSn := Aside0.mk (HS.out.below hb2)
  have HBn := Aside0.mk (below_step HB.out hb2)
  clear HS HB 
  have HS := HSn
  have HB := HBn
  clear HSn HBn 
  have HTx := HTn
  clear HTn hT2 hb2 hR1 hR3 hb_
  refine (keep_save_no w8 g x B1 d1 ss y none 0 [] (Kd.C_below HR1.out HB.out) hd1 (Kd.C_nil _ _) (Nat.le_refl _) 100 [] 1 HNO.out (by decide)).mono ?_
  rintro e w9 ⟨rfl, hb_⟩
  have HSn := Aside0.mk (HS.out.below hb_)
  have HBn := Aside0.mk (below_step HB.out hb_)
  have HTxn := Aside0.mk (HTx.out.step (Keeps.of_below hb_ HB.out.size))
  clear HS HB HTx
  have HS := HSn
  have HB := HBn
  have HTx := HTxn
  clear HSn HBn HTxn
  clear hb_
  go_wp2_with fail
  refine (keep_token w9 wN.heap.size g _ _ _ _ _ _ HS.out 100 0 [] 0 [] 10 dec_nil).mono ?_
  rintro e w10 ⟨v1y, v3y, rfl, hR1, hR3, hb_⟩
  obtain ⟨B1y, d1y, e1⟩ := Kd.R_slice hR1
  obtain ⟨B3y, d3y, e3⟩ := Kd.R_slice hR3
  subst e1 e3
  have HSn := Aside0.mk (HS.out.below hb_)
  have HBn := Aside0.mk (below_step HB.out hb_)
  have HTxn := Aside0.mk (HTx.out.step (Keeps.of_below hb_ HB.out.size))
  clear HS HB HTx
  have HS := HSn
  have HB := HBn
  have HTx := HTxn
  clear HSn HBn HTxn
  go_wp2_with fail
  have hb2 := (below_alloc (Below.refl w10.heap.size w10) (.cells #[.int .u64 0, .slice B1y 0 d1y, .int .u32 0, .slice B3y 0 d3y] 66))
  have hT2 := (stay_blk (b := wN.heap.size) (blk_new w10 (.cells #[.int .u64 0, .slice B1y 0 d1y, .int .u32 0, .slice B3y 0 d3y] 66)) (by decide) (by decide)).and ((stay_R (b := wN.heap.size) (Kd.R_below hR1 hb2) (by simp [Kd.int, Kd.scalar])).and (stay_R (b := wN.heap.size) (Kd.R_below hR3 hb2) (by simp [Kd.int, Kd.scalar])))
  have hl1y := (Kd.R_reads' hR1).2.1
  have hl3y := (Kd.R_reads' hR3).2.1
  generalize w10.heap.size = gy at hT2 ⊢
  have HTn := Aside0.mk hT2
  generalize (w10.alloc (.cells #[.int .u64 0, .slice B1y 0 d1y, .int .u32 0, .slice B3y 0 d3y] 66)) = w11 at hb2 HTn ⊢
  have HSn := Aside0.mk (HS.out.below hb2)
  have HBn := Aside0.mk (below_step HB.out hb2)
  have HTxn := Aside0.mk (HTx.out.step (Keeps.of_below hb2 HB.out.size))
  clear HS HB HTx
  have HS := HSn
  have HB := HBn
  have HTx := HTxn
  clear HSn HBn HTxn
  have HTy := HTn
  clear HTn hT2 hb2 hR1 hR3 hb_
  refine (keep_clear w11 wN.heap.size g _ _ _ _ _ _ HS.out HB.out.size (by simp) (by simp)).mono ?_
  rintro e w12 ⟨⟨rv12, rfl⟩, m212, lo12, hS, hV, _⟩
  have HSn := Aside0.mk (show Sto w12 wN.heap.size g _ _ _ ([], []) ([], []) [.clear] from hS)
  have HBn := Aside0.mk (hV.lift HS.out HB.out HB.out.size).1
  have HTxn := Aside0.mk (HTx.out.step (Keeps.of_mv hV HS.out HB.out.size))
  have HTyn := Aside0.mk (HTy.out.step (Keeps.of_mv hV HS.out HB.out.size))
  clear hS hV HS HB HTx HTy
  have HS := HSn
  have HB := HBn
  have HTx := HTxn
  have HTy := HTyn
  clear HSn HBn HTxn HTyn
  go_wp2_with fail
  refine (keep_token w12 wN.heap.size g _ _ _ _ _ _ HS.out 100 0 [] 0 [] 10 dec_nil).mono ?_
  rintro e w13 ⟨v1z, v3z, rfl, hR1, hR3, hb_⟩
  obtain ⟨B1z, d1z, e1⟩ := Kd.R_slice hR1
  obtain ⟨B3z, d3z, e3⟩ := Kd.R_slice hR3
  subst e1 e3
  have HSn := Aside0.mk (HS.out.below hb_)
  have HBn := Aside0.mk (below_step HB.out hb_)
  have HTxn := Aside0.mk (HTx.out.step (Keeps.of_below hb_ HB.out.size))
  have HTyn := Aside0.mk (HTy.out.step (Keeps.of_below hb_ HB.out.size))
  clear HS HB HTx HTy
  have HS := HSn
  have HB := HBn
  have HTx := HTxn
  have HTy := HTyn
  clear HSn HBn HTxn HTyn
  go_wp2_with fail
  have hb2 := below_alloc (Below.refl w13.heap.size w13) (.cells #[.int .u64 0, .slice B1z 0 d1z, .int .u32 0, .slice B3z 0 d3z] 66)
  generalize w13.heap.size = gz
  generalize w13.alloc (.cells #[.int .u64 0, .slice B1z 0 d1z, .int .u32 0, .slice B3z 0 d3z] 66) = w14 at hb2 ⊢
  have HSn := Aside0.mk (HS.out.below hb2)
  have HBn := Aside0.mk (below_step HB.out hb2)
  have HTxn := Aside0.mk (HTx.out.step (Keeps.of_below hb2 HB.out.size))
  have HTyn := Aside0.mk (HTy.out.step (Keeps.of_below hb2 HB.out.size))
  clear HS HB HTx HTy
  have HS := HSn
  have HB := HBn
  have HTx := HTxn
  have HTy := HTyn
  clear HSn HBn HTxn HTyn
  clear hb2 hR1 hR3 hb_
  refine (keep_known w14).mono ?_
  rintro e w15 ⟨rfl, hb_⟩
  have HSn := Aside0.mk (HS.out.below hb_)
  have HBn := Aside0.mk (below_step HB.out hb_)
  have HTxn := Aside0.mk (HTx.out.step (Keeps.of_below hb_ HB.out.size))
  have HTyn := Aside0.mk (HTy.out.step (Keeps.of_below hb_ HB.out.size))
  clear HS HB HTx HTy
  have HS := HSn
  have HB := HBn
  have HTx := HTxn
  have HTy := HTyn
  clear HSn HBn HTxn HTyn
  clear hb_
  have p0 : (w15).cell? ⟨gx, 0, none⟩ = some (.int .u64 0) := (blk_cell HTx.out.now.1 0).trans rfl
  have p1 : (w15).cell? ⟨gx, 1, none⟩ = some (.slice B1x 0 d1x) := (blk_cell HTx.out.now.1 1).trans rfl
  have p2 : (w15).cell? ⟨gx, 2, none⟩ = some (.int .u32 0) := (blk_cell HTx.out.now.1 2).trans rfl
  have p3 : (w15).cell? ⟨gx, 3, none⟩ = some (.slice B3x 0 d3x) := (blk_cell HTx.out.now.1 3).trans rfl
  have r0 : (w15).cell? ⟨gy, 0, none⟩ = some (.int .u64 0) := (blk_cell HTy.out.now.1 0).trans rfl
  have r1 : (w15).cell? ⟨gy, 1, none⟩ = some (.slice B1y 0 d1y) := (blk_cell HTy.out.now.1 1).trans rfl
  have r2 : (w15).cell? ⟨gy, 2, none⟩ = some (.int .u32 0) := (blk_cell HTy.out.now.1 2).trans rfl
  have r3 : (w15).cell? ⟨gy, 3, none⟩ = some (.slice B3y 0 d3y) := (blk_cell HTy.out.now.1 3).trans rfl
  go_wp2_with fail
  refine (scullerref14_Same.calls 100 0 B1x d1x [] 0 B3x d3x [] 0 B1y d1y [] 0 B3y d3y [] true w15 HTx.out.now.2.1 hl1x HTx.out.now.2.2 hl3x HTy.out.now.2.1 hl1y HTy.out.now.2.2 hl3y same_nil).mono ?_
  rintro e w17 ⟨rfl, hb_⟩
  clear p0 p1 p2 p3 r0 r1 r2 r3
  have HSn := Aside0.mk (HS.out.below hb_)
  have HBn := Aside0.mk (below_step HB.out hb_)
  have HTxn := Aside0.mk (HTx.out.step (Keeps.of_below hb_ HB.out.size))
  have HTyn := Aside0.mk (HTy.out.step (Keeps.of_below hb_ HB.out.size))
  clear HS HB HTx HTy
  have HS := HSn
  have HB := HBn
  have HTx := HTxn
  have HTy := HTyn
  clear HSn HBn HTxn HTyn
  clear hb_
  go_wp2_with fail
  go_ret
  exact ⟨rfl, below_step HB0.out HB.out⟩
set_option maxRecDepth 100000 in
set_option maxHeartbeats 8000000 in
theorem token_ff (w : World) (x : Int) (A1 : Option Addr) (c1 : Nat) (c : List Int) (n : Int) (hx : 0 ≤ x ∧ x ≤ 18446744073709551615) (hr1 : Kd.C (Kd.int .u8) w A1 c.length c) (hc1 : c.length ≤ c1) (hcb : Bytes c) (hcl : c.length ≤ 140737488351232) (hn : 0 ≤ n ∧ n ≤ 255) :
    Calls Try.prog 10 #[.int .u64 x, .slice A1 c.length c1, .int .u8 n, .bool false, .bool false] w fun e w' => e = .returned (.bool true) ∧ Below w.heap.size w w' := by
  obtain ⟨ss, y, kn, eT, ht, hbk, hy⟩ := tokG x hx c hcb hcl n 3 hn (by omega) (c.length + 500001) (by omega)
  have HTK := Aside0.mk ht
  have HEN := Aside0.mk (enc_ok ht hbk hy (x := x) 100 (by omega))
  have HDE := Aside0.mk (dec_back ht hbk hx hy 100 (by omega))
  have HNO := Aside0.mk (enc_nil ht (x := x) (y := y))
  have HSM := Aside0.mk (rtokSame_self (x := x) (ss := ss) (y := y) hbk (by have := ((fitsB_iff ss).1 ht.1).2.1; omega) 100 (by have := ((fitsB_iff ss).1 ht.1).2.1; omega))
  generalize sealed (encL x ss y kn) = E at HEN HDE
  clear hcb hcl hbk ht
  go_enter Try.func10, Try.ntmps10
  go_wp2_with fail
  refine (scullerlaw14_Token.calls _ x A1 c1 c n 3 x ss y kn w hr1 hc1 eT).mono ?_
  rintro e w1 ⟨v1, v3, rfl, hR1, hR3, hb⟩
  obtain ⟨B1, d1, e1⟩ := Kd.R_slice hR1
  obtain ⟨B3, d3, e3⟩ := Kd.R_slice hR3
  subst e1 e3
  clear eT hr1
  go_wp2_with fail
  have hb1 := below_alloc (Below.refl w1.heap.size w1) (.cells #[.int .u64 x, .slice B1 ss.length d1, .int .u32 y, .slice B3 kn.length d3] 66)
  have HT := Aside0.mk (blk_new w1 (.cells #[.int .u64 x, .slice B1 ss.length d1, .int .u32 y, .slice B3 kn.length d3] 66))
  have HR1 := Aside0.mk (Kd.C_below (Kd.R_reads' hR1).2.2 hb1)
  have HR3 := Aside0.mk (Kd.C_below (Kd.R_reads' hR3).2.2 hb1)
  have hd1 := (Kd.R_reads' hR1).2.1
  have hd3 := (Kd.R_reads' hR3).2.1
  have HB0 := Aside0.mk (below_step hb hb1)
  generalize hgt : w1.heap.size = gt at HT ⊢
  generalize w1.alloc (.cells #[.int .u64 x, .slice B1 ss.length d1, .int .u32 y, .slice B3 kn.length d3] 66) = wN at hb1 HT HR1 HR3 HB0 ⊢
  clear hb hb1 hR1 hR3 hgt
  refine (keep_new wN).mono ?_
  rintro e w2 ⟨g, m1, m2, rfl, hS, hb_⟩
  have HS := Aside0.mk hS
  have HB := Aside0.mk hb_
  clear hS hb_
  have t0 : (w2).cell? ⟨gt, 0, none⟩ = some (.int .u64 x) := (blk_cell (blk_below HT.out HB.out) 0).trans rfl
  have t1 : (w2).cell? ⟨gt, 1, none⟩ = some (.slice B1 ss.length d1) := (blk_cell (blk_below HT.out HB.out) 1).trans rfl
  have t2 : (w2).cell? ⟨gt, 2, none⟩ = some (.int .u32 y) := (blk_cell (blk_below HT.out HB.out) 2).trans rfl
  have t3 : (w2).cell? ⟨gt, 3, none⟩ = some (.slice B3 kn.length d3) := (blk_cell (blk_below HT.out HB.out) 3).trans rfl
  go_wp2_with fail
  clear t0 t1 t2 t3
  refine (keep_save_ok w2 wN.heap.size g _ _ _ _ _ _ HS.out HB.out.size (by simp) (by simp) x B1 d1 ss y B3 d3 kn (Kd.C_below HR1.out HB.out) hd1 (Kd.C_below HR3.out HB.out) hd3 100 E HEN.out).mono ?_
  rintro e w3 ⟨rfl, m23, lo3, hS, hV, _⟩
  have HSn := Aside0.mk (show Sto w3 wN.heap.size g _ _ _ ([], []) ([], E) [.save E] from hS)
  have HBn := Aside0.mk (hV.lift HS.out HB.out HB.out.size).1
  clear hS hV HS HB 
  have HS := HSn
  have HB := HBn
  clear HSn HBn 
  go_wp2_with fail
  have hb0 := below_alloc (Below.refl w3.heap.size w3) (.cells #[.bool true] 4)
  have hc0 := blk_new w3 (.cells #[.bool true] 4)
  generalize hq : w3.heap.size = gk at hc0 ⊢
  generalize w3.alloc (.cells #[.bool true] 4) = wx at hb0 hc0 ⊢
  have hno : ∀ k, Own g _ _ _ k → k ≠ gk := fun k q e => by have := HS.out.lt q; omega
  have HSn := Aside0.mk (HS.out.below hb0)
  have HBn := Aside0.mk (below_step HB.out hb0)
  clear HS HB 
  have HS := HSn
  have HB := HBn
  clear HSn HBn 
  refine (keep_crash wx wN.heap.size g _ _ _ _ _ _ HS.out HB.out.size (by simp) (some ⟨gk, 0, none⟩) 1 [true] (fun w' hk => B_lit [true] (blk_kept hc0 hk (fun q => hno gk q rfl)) rfl (by simp)) (Nat.le_refl _)).mono ?_
  rintro e w5 ⟨⟨rv5, rfl⟩, m15, m25, hS, hV, _⟩
  have HSn := Aside0.mk (show Sto w5 wN.heap.size g _ _ _ ([], E) ([], E) [] from hS)
  have HBn := Aside0.mk (hV.lift HS.out HB.out HB.out.size).1
  clear hS hV HS HB 
  have HS := HSn
  have HB := HBn
  clear HSn HBn 
  clear hb0 hc0 hno hq
  go_wp2_with fail
  refine (keep_token w5 wN.heap.size g _ _ _ _ _ _ HS.out 100 x ss y kn 0 HDE.out).mono ?_
  rintro e w6 ⟨v1x, v3x, rfl, hR1, hR3, hb_⟩
  obtain ⟨B1x, d1x, e1⟩ := Kd.R_slice hR1
  obtain ⟨B3x, d3x, e3⟩ := Kd.R_slice hR3
  subst e1 e3
  have HSn := Aside0.mk (HS.out.below hb_)
  have HBn := Aside0.mk (below_step HB.out hb_)
  clear HS HB 
  have HS := HSn
  have HB := HBn
  clear HSn HBn 
  have hgo := trivial
  have t0 : (w6.alloc (.cells #[.int .u64 x, .slice B1x (ss : List Int).length d1x, .int .u32 y, .slice B3x (kn : List Int).length d3x] 66)).cell? ⟨gt, 0, none⟩ = some (.int .u64 x) := (blk_cell (blk_below (blk_below HT.out HB.out) (below_alloc (Below.refl w6.heap.size w6) (.cells #[.int .u64 x, .slice B1x (ss : List Int).length d1x, .int .u32 y, .slice B3x (kn : List Int).length d3x] 66))) 0).trans rfl
  have t1 : (w6.alloc (.cells #[.int .u64 x, .slice B1x (ss : List Int).length d1x, .int .u32 y, .slice B3x (kn : List Int).length d3x] 66)).cell? ⟨gt, 1, none⟩ = some (.slice B1 ss.length d1) := (blk_cell (blk_below (blk_below HT.out HB.out) (below_alloc (Below.refl w6.heap.size w6) (.cells #[.int .u64 x, .slice B1x (ss : List Int).length d1x, .int .u32 y, .slice B3x (kn : List Int).length d3x] 66))) 1).trans rfl
  have t2 : (w6.alloc (.cells #[.int .u64 x, .slice B1x (ss : List Int).length d1x, .int .u32 y, .slice B3x (kn : List Int).length d3x] 66)).cell? ⟨gt, 2, none⟩ = some (.int .u32 y) := (blk_cell (blk_below (blk_below HT.out HB.out) (below_alloc (Below.refl w6.heap.size w6) (.cells #[.int .u64 x, .slice B1x (ss : List Int).length d1x, .int .u32 y, .slice B3x (kn : List Int).length d3x] 66))) 2).trans rfl
  have t3 : (w6.alloc (.cells #[.int .u64 x, .slice B1x (ss : List Int).length d1x, .int .u32 y, .slice B3x (kn : List Int).length d3x] 66)).cell? ⟨gt, 3, none⟩ = some (.slice B3 kn.length d3) := (blk_cell (blk_below (blk_below HT.out HB.out) (below_alloc (Below.refl w6.heap.size w6) (.cells #[.int .u64 x, .slice B1x (ss : List Int).length d1x, .int .u32 y, .slice B3x (kn : List Int).length d3x] 66))) 3).trans rfl
  go_wp2_with fail
  clear t0 t1 t2 t3 hgo
  have hb2 := (below_alloc (below_alloc (Below.refl w6.heap.size w6) (.cells #[.int .u64 x, .slice B1x (ss : List Int).length d1x, .int .u32 y, .slice B3x (kn : List Int).length d3x] 66)) (.cells #[.int .u64 x, .slice B1 ss.length d1, .int .u32 y, .slice none 0 0] 66))
  have hT2 := (stay_blk (b := wN.heap.size) (blk_alloc (blk_new w6 (.cells #[.int .u64 x, .slice B1x (ss : List Int).length d1x, .int .u32 y, .slice B3x (kn : List Int).length d3x] 66)) (.cells #[.int .u64 x, .slice B1 ss.length d1, .int .u32 y, .slice none 0 0] 66)) (by decide) (by decide)).and ((stay_R (b := wN.heap.size) (Kd.R_below hR1 hb2) (by simp [Kd.int, Kd.scalar])).and (stay_R (b := wN.heap.size) (Kd.R_below hR3 hb2) (by simp [Kd.int, Kd.scalar])))
  have hl1x := (Kd.R_reads' hR1).2.1
  have hl3x := (Kd.R_reads' hR3).2.1
  generalize w6.heap.size = gx at hT2 ⊢
  have HTn := Aside0.mk hT2
  generalize ((w6.alloc (.cells #[.int .u64 x, .slice B1x (ss : List Int).length d1x, .int .u32 y, .slice B3x (kn : List Int).length d3x] 66)).alloc (.cells #[.int .u64 x, .slice B1 ss.length d1, .int .u32 y, .slice none 0 0] 66)) = w8 at hb2 HTn ⊢
  have HSn := Aside0.mk (HS.out.below hb2)
  have HBn := Aside0.mk (below_step HB.out hb2)
  clear HS HB 
  have HS := HSn
  have HB := HBn
  clear HSn HBn 
  have HTx := HTn
  clear HTn hT2 hb2 hR1 hR3 hb_
  refine (keep_save_no w8 g x B1 d1 ss y none 0 [] (Kd.C_below HR1.out HB.out) hd1 (Kd.C_nil _ _) (Nat.le_refl _) 100 [] 1 HNO.out (by decide)).mono ?_
  rintro e w9 ⟨rfl, hb_⟩
  have HSn := Aside0.mk (HS.out.below hb_)
  have HBn := Aside0.mk (below_step HB.out hb_)
  have HTxn := Aside0.mk (HTx.out.step (Keeps.of_below hb_ HB.out.size))
  clear HS HB HTx
  have HS := HSn
  have HB := HBn
  have HTx := HTxn
  clear HSn HBn HTxn
  clear hb_
  go_wp2_with fail
  refine (keep_token w9 wN.heap.size g _ _ _ _ _ _ HS.out 100 x ss y kn 0 HDE.out).mono ?_
  rintro e w10 ⟨v1y, v3y, rfl, hR1, hR3, hb_⟩
  obtain ⟨B1y, d1y, e1⟩ := Kd.R_slice hR1
  obtain ⟨B3y, d3y, e3⟩ := Kd.R_slice hR3
  subst e1 e3
  have HSn := Aside0.mk (HS.out.below hb_)
  have HBn := Aside0.mk (below_step HB.out hb_)
  have HTxn := Aside0.mk (HTx.out.step (Keeps.of_below hb_ HB.out.size))
  clear HS HB HTx
  have HS := HSn
  have HB := HBn
  have HTx := HTxn
  clear HSn HBn HTxn
  go_wp2_with fail
  have hb2 := (below_alloc (Below.refl w10.heap.size w10) (.cells #[.int .u64 x, .slice B1y (ss : List Int).length d1y, .int .u32 y, .slice B3y (kn : List Int).length d3y] 66))
  have hT2 := (stay_blk (b := wN.heap.size) (blk_new w10 (.cells #[.int .u64 x, .slice B1y (ss : List Int).length d1y, .int .u32 y, .slice B3y (kn : List Int).length d3y] 66)) (by decide) (by decide)).and ((stay_R (b := wN.heap.size) (Kd.R_below hR1 hb2) (by simp [Kd.int, Kd.scalar])).and (stay_R (b := wN.heap.size) (Kd.R_below hR3 hb2) (by simp [Kd.int, Kd.scalar])))
  have hl1y := (Kd.R_reads' hR1).2.1
  have hl3y := (Kd.R_reads' hR3).2.1
  generalize w10.heap.size = gy at hT2 ⊢
  have HTn := Aside0.mk hT2
  generalize (w10.alloc (.cells #[.int .u64 x, .slice B1y (ss : List Int).length d1y, .int .u32 y, .slice B3y (kn : List Int).length d3y] 66)) = w11 at hb2 HTn ⊢
  have HSn := Aside0.mk (HS.out.below hb2)
  have HBn := Aside0.mk (below_step HB.out hb2)
  have HTxn := Aside0.mk (HTx.out.step (Keeps.of_below hb2 HB.out.size))
  clear HS HB HTx
  have HS := HSn
  have HB := HBn
  have HTx := HTxn
  clear HSn HBn HTxn
  have HTy := HTn
  clear HTn hT2 hb2 hR1 hR3 hb_
  refine (keep_clear w11 wN.heap.size g _ _ _ _ _ _ HS.out HB.out.size (by simp) (by simp)).mono ?_
  rintro e w12 ⟨⟨rv12, rfl⟩, m212, lo12, hS, hV, _⟩
  have HSn := Aside0.mk (show Sto w12 wN.heap.size g _ _ _ ([], E) ([], []) [.clear] from hS)
  have HBn := Aside0.mk (hV.lift HS.out HB.out HB.out.size).1
  have HTxn := Aside0.mk (HTx.out.step (Keeps.of_mv hV HS.out HB.out.size))
  have HTyn := Aside0.mk (HTy.out.step (Keeps.of_mv hV HS.out HB.out.size))
  clear hS hV HS HB HTx HTy
  have HS := HSn
  have HB := HBn
  have HTx := HTxn
  have HTy := HTyn
  clear HSn HBn HTxn HTyn
  go_wp2_with fail
  refine (keep_token w12 wN.heap.size g _ _ _ _ _ _ HS.out 100 0 [] 0 [] 10 dec_nil).mono ?_
  rintro e w13 ⟨v1z, v3z, rfl, hR1, hR3, hb_⟩
  obtain ⟨B1z, d1z, e1⟩ := Kd.R_slice hR1
  obtain ⟨B3z, d3z, e3⟩ := Kd.R_slice hR3
  subst e1 e3
  have HSn := Aside0.mk (HS.out.below hb_)
  have HBn := Aside0.mk (below_step HB.out hb_)
  have HTxn := Aside0.mk (HTx.out.step (Keeps.of_below hb_ HB.out.size))
  have HTyn := Aside0.mk (HTy.out.step (Keeps.of_below hb_ HB.out.size))
  clear HS HB HTx HTy
  have HS := HSn
  have HB := HBn
  have HTx := HTxn
  have HTy := HTyn
  clear HSn HBn HTxn HTyn
  go_wp2_with fail
  have hb2 := below_alloc (Below.refl w13.heap.size w13) (.cells #[.int .u64 0, .slice B1z 0 d1z, .int .u32 0, .slice B3z 0 d3z] 66)
  generalize w13.heap.size = gz
  generalize w13.alloc (.cells #[.int .u64 0, .slice B1z 0 d1z, .int .u32 0, .slice B3z 0 d3z] 66) = w14 at hb2 ⊢
  have HSn := Aside0.mk (HS.out.below hb2)
  have HBn := Aside0.mk (below_step HB.out hb2)
  have HTxn := Aside0.mk (HTx.out.step (Keeps.of_below hb2 HB.out.size))
  have HTyn := Aside0.mk (HTy.out.step (Keeps.of_below hb2 HB.out.size))
  clear HS HB HTx HTy
  have HS := HSn
  have HB := HBn
  have HTx := HTxn
  have HTy := HTyn
  clear HSn HBn HTxn HTyn
  clear hb2 hR1 hR3 hb_
  refine (keep_known w14).mono ?_
  rintro e w15 ⟨rfl, hb_⟩
  have HSn := Aside0.mk (HS.out.below hb_)
  have HBn := Aside0.mk (below_step HB.out hb_)
  have HTxn := Aside0.mk (HTx.out.step (Keeps.of_below hb_ HB.out.size))
  have HTyn := Aside0.mk (HTy.out.step (Keeps.of_below hb_ HB.out.size))
  clear HS HB HTx HTy
  have HS := HSn
  have HB := HBn
  have HTx := HTxn
  have HTy := HTyn
  clear HSn HBn HTxn HTyn
  clear hb_
  have p0 : (w15).cell? ⟨gx, 0, none⟩ = some (.int .u64 x) := (blk_cell HTx.out.now.1 0).trans rfl
  have p1 : (w15).cell? ⟨gx, 1, none⟩ = some (.slice B1x (ss : List Int).length d1x) := (blk_cell HTx.out.now.1 1).trans rfl
  have p2 : (w15).cell? ⟨gx, 2, none⟩ = some (.int .u32 y) := (blk_cell HTx.out.now.1 2).trans rfl
  have p3 : (w15).cell? ⟨gx, 3, none⟩ = some (.slice B3x (kn : List Int).length d3x) := (blk_cell HTx.out.now.1 3).trans rfl
  have q0 : (w15).cell? ⟨gt, 0, none⟩ = some (.int .u64 x) := (blk_cell (blk_below HT.out HB.out) 0).trans rfl
  have q1 : (w15).cell? ⟨gt, 1, none⟩ = some (.slice B1 ss.length d1) := (blk_cell (blk_below HT.out HB.out) 1).trans rfl
  have q2 : (w15).cell? ⟨gt, 2, none⟩ = some (.int .u32 y) := (blk_cell (blk_below HT.out HB.out) 2).trans rfl
  have q3 : (w15).cell? ⟨gt, 3, none⟩ = some (.slice B3 kn.length d3) := (blk_cell (blk_below HT.out HB.out) 3).trans rfl
  go_wp2_with fail
  refine (scullerref14_Same.calls 100 x B1x d1x ss y B3x d3x kn x B1 d1 ss y B3 d3 kn true w15 HTx.out.now.2.1 hl1x HTx.out.now.2.2 hl3x (Kd.C_below HR1.out HB.out) hd1 (Kd.C_below HR3.out HB.out) hd3 HSM.out).mono ?_
  rintro e w16 ⟨rfl, hb_⟩
  clear p0 p1 p2 p3 q0 q1 q2 q3
  have HSn := Aside0.mk (HS.out.below hb_)
  have HBn := Aside0.mk (below_step HB.out hb_)
  have HTxn := Aside0.mk (HTx.out.step (Keeps.of_below hb_ HB.out.size))
  have HTyn := Aside0.mk (HTy.out.step (Keeps.of_below hb_ HB.out.size))
  clear HS HB HTx HTy
  have HS := HSn
  have HB := HBn
  have HTx := HTxn
  have HTy := HTyn
  clear HSn HBn HTxn HTyn
  clear hb_
  have p0 : (w16).cell? ⟨gx, 0, none⟩ = some (.int .u64 x) := (blk_cell HTx.out.now.1 0).trans rfl
  have p1 : (w16).cell? ⟨gx, 1, none⟩ = some (.slice B1x (ss : List Int).length d1x) := (blk_cell HTx.out.now.1 1).trans rfl
  have p2 : (w16).cell? ⟨gx, 2, none⟩ = some (.int .u32 y) := (blk_cell HTx.out.now.1 2).trans rfl
  have p3 : (w16).cell? ⟨gx, 3, none⟩ = some (.slice B3x (kn : List Int).length d3x) := (blk_cell HTx.out.now.1 3).trans rfl
  have r0 : (w16).cell? ⟨gy, 0, none⟩ = some (.int .u64 x) := (blk_cell HTy.out.now.1 0).trans rfl
  have r1 : (w16).cell? ⟨gy, 1, none⟩ = some (.slice B1y (ss : List Int).length d1y) := (blk_cell HTy.out.now.1 1).trans rfl
  have r2 : (w16).cell? ⟨gy, 2, none⟩ = some (.int .u32 y) := (blk_cell HTy.out.now.1 2).trans rfl
  have r3 : (w16).cell? ⟨gy, 3, none⟩ = some (.slice B3y (kn : List Int).length d3y) := (blk_cell HTy.out.now.1 3).trans rfl
  go_wp2_with fail
  refine (scullerref14_Same.calls 100 x B1x d1x ss y B3x d3x kn x B1y d1y ss y B3y d3y kn true w16 HTx.out.now.2.1 hl1x HTx.out.now.2.2 hl3x HTy.out.now.2.1 hl1y HTy.out.now.2.2 hl3y HSM.out).mono ?_
  rintro e w17 ⟨rfl, hb_⟩
  clear p0 p1 p2 p3 r0 r1 r2 r3
  have HSn := Aside0.mk (HS.out.below hb_)
  have HBn := Aside0.mk (below_step HB.out hb_)
  have HTxn := Aside0.mk (HTx.out.step (Keeps.of_below hb_ HB.out.size))
  have HTyn := Aside0.mk (HTy.out.step (Keeps.of_below hb_ HB.out.size))
  clear HS HB HTx HTy
  have HS := HSn
  have HB := HBn
  have HTx := HTxn
  have HTy := HTyn
  clear HSn HBn HTxn HTyn
  clear hb_
  go_wp2_with fail
  go_ret
  exact ⟨rfl, below_step HB0.out HB.out⟩
/-- What the law KeepToken computes. -/
def scullerlaw15_KeepToken.f (a0 : Int) (l1 : List Int) (a2 : Int) (a3 a4 : Bool) : Option Bool := if (Lit.int .u64 a0).wf = true ∧ l1.length ≤ 140737488351232 ∧ (∀ x ∈ l1, (Lit.int .u8 x).wf = true) ∧ (Lit.int .u8 a2).wf = true then some true else none
theorem scullerlaw15_KeepToken.calls (a0 : Int) (A1 : Option Addr) (c1 : Nat) (l1 : List Int) (a2 : Int) (a3 a4 : Bool) (r : Bool) (w : World) (hr1 : Kd.C (Kd.int .u8) w A1 l1.length l1) (hc1 : l1.length ≤ c1) (h : scullerlaw15_KeepToken.f a0 l1 a2 a3 a4 = some r) :
    Calls Try.prog 10 #[.int .u64 a0, .slice A1 l1.length c1, .int .u8 a2, .bool a3, .bool a4] w fun e w' => e = .returned (.bool r) ∧ Below w.heap.size w w' := by
  unfold scullerlaw15_KeepToken.f at h
  split at h
  · rename_i hh
    obtain rfl := Option.some.inj h
    have hx := bounds_u64 hh.1
    have hcb := Bytes.of_wf hh.2.2.1
    have hn := bounds_u8 hh.2.2.2
    cases a3 <;> cases a4
    · exact token_ff w a0 A1 c1 l1 a2 hx hr1 hc1 hcb hh.2.1 hn
    · exact token_ft w a0 A1 c1 l1 a2 hx hr1 hc1 hcb hh.2.1 hn
    · exact token_tf w a0 A1 c1 l1 a2 hx hr1 hc1 hcb hh.2.1 hn
    · exact token_tt w a0 A1 c1 l1 a2 hx hr1 hc1 hcb hh.2.1 hn
  · cases h
end Go.Proofs.Ytliohoalackhiaa.T
