/- The law KeepOrder returns true: of steps that are kept a later one counts; what was cleared, and kept so, is gone: for every place, bytes and choices, in whatever memory. Conditions: numbers as their types have them. -/
import Derived.Test.YtliohoalackhiaaOEKeepJ
import Derived.Test.YtliohoalackhiaaOEEBits
namespace Go.Proofs.Ytliohoalackhiaa.E
open Go.ChangeMaps hiding rd
open Go.RowKit Go.Maps Go.Proofs.YtliohoalackhiaaW.PrintWords Go.Proofs.YtliohoalackhiaaW.PrintLast Go.Proofs.YtliohoalackhiaaW.PrintMore Go.Proofs.Ytliohoalackhiaa.Num
set_option linter.unusedVariables false
set_option linter.unusedSimpArgs false
theorem getA_nil (i : Int) : getA [] i = none := rfl
theorem getA_hit (i : Int) (xs : List Int) (t : Hist) : getA ((i, xs) :: t) i = some xs := by unfold getA; rw [List.find?_cons]; simp
theorem getA_one (i j : Int) (xs : List Int) : (getA [(i, xs)] j).isSome = decide (i = j) := by
  unfold getA
  rw [List.find?_cons, List.find?_nil]
  by_cases h : i = j
  · rw [beq_iff_eq.mpr h, decide_eq_true h]; rfl
  · rw [beq_eq_false_iff_ne.mpr h, decide_eq_false h]; rfl
theorem getA_two (i j : Int) (xs ys : List Int) : (getA [(i, xs), (i, ys)] j).isSome = decide (i = j) := by
  unfold getA
  rw [List.find?_cons, List.find?_cons, List.find?_nil]
  by_cases h : i = j
  · rw [beq_iff_eq.mpr h, decide_eq_true h]; rfl
  · rw [beq_eq_false_iff_ne.mpr h, decide_eq_false h]; rfl
set_option maxRecDepth 100000 in
set_option maxHeartbeats 8000000 in
theorem order_000 (i a b : Int) (w : World) (hi : 0 ≤ i ∧ i ≤ 255) (ha : 0 ≤ a ∧ a ≤ 255) (hb : 0 ≤ b ∧ b ≤ 255) :
    Calls Try.prog 4 #[.int .u8 i, .int .u8 a, .int .u8 b, .bool false, .bool false, .bool false] w fun e w' => e = .returned (.bool true) ∧ Below w.heap.size w w' := by
  have hwi : wrap64 i = i := IntWalk.wrap64_in _ (by omega)
  go_enter Try.func4, Try.ntmps4
  go_wp2_with fail
  refine (keep_new w).mono ?_
  rintro e w1 ⟨g, m1, m2, rfl, hS, hb_⟩
  have HS := Aside0.mk hS
  have HB := Aside0.mk hb_
  clear hS hb_
  go_wp2_with fail
  have hb0 := below_alloc (Below.refl w1.heap.size w1) (.cells #[.int .u8 a] 5)
  have hc0 := C_lit (k := .u8) [a] (blk_new w1 (.cells #[.int .u8 a] 5)) rfl (by simp)
  generalize w1.alloc (.cells #[.int .u8 a] 5) = wx at hb0 hc0 ⊢
  have HSx := Aside0.mk (HS.out.below hb0)
  have HBx := Aside0.mk (below_step HB.out hb0)
  clear HS HB
  refine (keep_put wx w.heap.size g _ _ _ _ _ _ HSx.out HBx.out.size (by simp) (by simp) i _ 1 [a] hc0 (by simp) (by omega) (by simp)).mono ?_
  rintro e w2 ⟨rfl, m21, lo1, hS, hV, _⟩
  have HS := Aside0.mk (show Sto w2 w.heap.size g _ _ _ ([], []) ([(i, [a])], []) [.put i [a]] from hS)
  have HB := Aside0.mk (hV.lift HSx.out HBx.out HBx.out.size).1
  clear hS hV hb0 hc0 HSx HBx
  go_wp2_with fail
  have hb0 := below_alloc (Below.refl w2.heap.size w2) (.cells #[.int .u8 b] 5)
  have hc0 := C_lit (k := .u8) [b] (blk_new w2 (.cells #[.int .u8 b] 5)) rfl (by simp)
  generalize w2.alloc (.cells #[.int .u8 b] 5) = wx at hb0 hc0 ⊢
  have HSx := Aside0.mk (HS.out.below hb0)
  have HBx := Aside0.mk (below_step HB.out hb0)
  clear HS HB
  refine (keep_put wx w.heap.size g _ _ _ _ _ _ HSx.out HBx.out.size (by simp) (by simp) i _ 1 [b] hc0 (by simp) (by omega) (by simp)).mono ?_
  rintro e w3 ⟨rfl, m22, lo2, hS, hV, _⟩
  have HS := Aside0.mk (show Sto w3 w.heap.size g _ _ _ ([], []) ([(i, [b]), (i, [a])], []) [.put i [a], .put i [b]] from hS)
  have HB := Aside0.mk (hV.lift HSx.out HBx.out HBx.out.size).1
  clear hS hV hb0 hc0 HSx HBx
  go_wp2_with fail
  refine (keep_clear w3 w.heap.size g _ _ _ _ _ _ HS.out HB.out.size (by simp) (by simp)).mono ?_
  rintro e w4 ⟨⟨rv3, rfl⟩, m23, lo3, hS, hV, _⟩
  have HSn := Aside0.mk (show Sto w4 w.heap.size g _ _ _ ([], []) ([], []) [.put i [a], .put i [b], .clear] from hS)
  have HBn := Aside0.mk (hV.lift HS.out HB.out HB.out.size).1
  clear hS hV HS HB
  have HS := HSn
  have HB := HBn
  clear HSn HBn
  go_wp2_with fail
  have hb0 := below_alloc (Below.refl w4.heap.size w4) (.cells #[.bool false, .bool false, .bool false] 4)
  have hc0 := blk_new w4 (.cells #[.bool false, .bool false, .bool false] 4)
  generalize hq : w4.heap.size = gk at hc0 ⊢
  generalize w4.alloc (.cells #[.bool false, .bool false, .bool false] 4) = wx at hb0 hc0 ⊢
  have HSx := Aside0.mk (HS.out.below hb0)
  have HBx := Aside0.mk (below_step HB.out hb0)
  have hno : ∀ k, Own g m1 m23 lo3 k → k ≠ gk := fun k q e => by have := HS.out.lt q; omega
  clear HS HB
  refine (keep_crash wx w.heap.size g _ _ _ _ _ _ HSx.out HBx.out.size (by simp) (some ⟨gk, 0, none⟩) 3 [false, false, false] (fun w' hk => B_lit [false, false, false] (blk_kept hc0 hk (fun q => hno gk q rfl)) rfl (by simp)) (Nat.le_refl _)).mono ?_
  rintro e w5 ⟨⟨rv4, rfl⟩, m14, m24, hS, hV, _⟩
  have HS := Aside0.mk (show Sto w5 w.heap.size g _ _ _ ([], []) ([], []) [] from hS)
  have HB := Aside0.mk (hV.lift HSx.out HBx.out HBx.out.size).1
  clear hS hV hb0 hc0 HSx HBx hno hq
  go_wp2_with fail
  refine (keep_get w5 w.heap.size g _ _ _ _ _ _ HS.out i (wf_i64 (by omega)) (by simp [getA_nil])).mono ?_
  rintro e w6 ⟨v5, hv_, hR, hb_⟩
  rw [getA_nil] at hv_ hR
  obtain rfl := hv_
  have hR : Kd.R (Kd.int .u8) 5 w6 w5.heap.size (fun _ => True) v5 [] := hR
  obtain ⟨A5, c5, e5⟩ := Kd.R_slice hR
  subst e5
  have HR5 := Aside0.mk hR
  have HSn := Aside0.mk (HS.out.below hb_)
  have HBn := Aside0.mk (below_step HB.out hb_)
  clear hR hb_ HS HB
  have HS := HSn
  have HB := HBn
  clear HSn HBn
  go_wp2_with fail
  refine (keep_known w6).mono ?_
  rintro e w7 ⟨rfl, hb_⟩
  have HSn := Aside0.mk (HS.out.below hb_)
  have HBn := Aside0.mk (below_step HB.out hb_)
  have HR7 := Aside0.mk (Kd.R_below HR5.out hb_)
  clear hb_ HS HB HR5
  have HS := HSn
  have HB := HBn
  clear HSn HBn
  go_wp2
  go_ret
  exact ⟨by first | rfl | simp, HB.out⟩
set_option maxRecDepth 100000 in
set_option maxHeartbeats 8000000 in
theorem order_001 (i a b : Int) (w : World) (hi : 0 ≤ i ∧ i ≤ 255) (ha : 0 ≤ a ∧ a ≤ 255) (hb : 0 ≤ b ∧ b ≤ 255) :
    Calls Try.prog 4 #[.int .u8 i, .int .u8 a, .int .u8 b, .bool false, .bool false, .bool true] w fun e w' => e = .returned (.bool true) ∧ Below w.heap.size w w' := by
  have hwi : wrap64 i = i := IntWalk.wrap64_in _ (by omega)
  go_enter Try.func4, Try.ntmps4
  go_wp2_with fail
  refine (keep_new w).mono ?_
  rintro e w1 ⟨g, m1, m2, rfl, hS, hb_⟩
  have HS := Aside0.mk hS
  have HB := Aside0.mk hb_
  clear hS hb_
  go_wp2_with fail
  have hb0 := below_alloc (Below.refl w1.heap.size w1) (.cells #[.int .u8 a] 5)
  have hc0 := C_lit (k := .u8) [a] (blk_new w1 (.cells #[.int .u8 a] 5)) rfl (by simp)
  generalize w1.alloc (.cells #[.int .u8 a] 5) = wx at hb0 hc0 ⊢
  have HSx := Aside0.mk (HS.out.below hb0)
  have HBx := Aside0.mk (below_step HB.out hb0)
  clear HS HB
  refine (keep_put wx w.heap.size g _ _ _ _ _ _ HSx.out HBx.out.size (by simp) (by simp) i _ 1 [a] hc0 (by simp) (by omega) (by simp)).mono ?_
  rintro e w2 ⟨rfl, m21, lo1, hS, hV, _⟩
  have HS := Aside0.mk (show Sto w2 w.heap.size g _ _ _ ([], []) ([(i, [a])], []) [.put i [a]] from hS)
  have HB := Aside0.mk (hV.lift HSx.out HBx.out HBx.out.size).1
  clear hS hV hb0 hc0 HSx HBx
  go_wp2_with fail
  have hb0 := below_alloc (Below.refl w2.heap.size w2) (.cells #[.int .u8 b] 5)
  have hc0 := C_lit (k := .u8) [b] (blk_new w2 (.cells #[.int .u8 b] 5)) rfl (by simp)
  generalize w2.alloc (.cells #[.int .u8 b] 5) = wx at hb0 hc0 ⊢
  have HSx := Aside0.mk (HS.out.below hb0)
  have HBx := Aside0.mk (below_step HB.out hb0)
  clear HS HB
  refine (keep_put wx w.heap.size g _ _ _ _ _ _ HSx.out HBx.out.size (by simp) (by simp) i _ 1 [b] hc0 (by simp) (by omega) (by simp)).mono ?_
  rintro e w3 ⟨rfl, m22, lo2, hS, hV, _⟩
  have HS := Aside0.mk (show Sto w3 w.heap.size g _ _ _ ([], []) ([(i, [b]), (i, [a])], []) [.put i [a], .put i [b]] from hS)
  have HB := Aside0.mk (hV.lift HSx.out HBx.out HBx.out.size).1
  clear hS hV hb0 hc0 HSx HBx
  go_wp2_with fail
  refine (keep_clear w3 w.heap.size g _ _ _ _ _ _ HS.out HB.out.size (by simp) (by simp)).mono ?_
  rintro e w4 ⟨⟨rv3, rfl⟩, m23, lo3, hS, hV, _⟩
  have HSn := Aside0.mk (show Sto w4 w.heap.size g _ _ _ ([], []) ([], []) [.put i [a], .put i [b], .clear] from hS)
  have HBn := Aside0.mk (hV.lift HS.out HB.out HB.out.size).1
  clear hS hV HS HB
  have HS := HSn
  have HB := HBn
  clear HSn HBn
  go_wp2_with fail
  have hb0 := below_alloc (Below.refl w4.heap.size w4) (.cells #[.bool false, .bool false, .bool true] 4)
  have hc0 := blk_new w4 (.cells #[.bool false, .bool false, .bool true] 4)
  generalize hq : w4.heap.size = gk at hc0 ⊢
  generalize w4.alloc (.cells #[.bool false, .bool false, .bool true] 4) = wx at hb0 hc0 ⊢
  have HSx := Aside0.mk (HS.out.below hb0)
  have HBx := Aside0.mk (below_step HB.out hb0)
  have hno : ∀ k, Own g m1 m23 lo3 k → k ≠ gk := fun k q e => by have := HS.out.lt q; omega
  clear HS HB
  refine (keep_crash wx w.heap.size g _ _ _ _ _ _ HSx.out HBx.out.size (by simp) (some ⟨gk, 0, none⟩) 3 [false, false, true] (fun w' hk => B_lit [false, false, true] (blk_kept hc0 hk (fun q => hno gk q rfl)) rfl (by simp)) (Nat.le_refl _)).mono ?_
  rintro e w5 ⟨⟨rv4, rfl⟩, m14, m24, hS, hV, _⟩
  have HS := Aside0.mk (show Sto w5 w.heap.size g _ _ _ ([], []) ([], []) [] from hS)
  have HB := Aside0.mk (hV.lift HSx.out HBx.out HBx.out.size).1
  clear hS hV hb0 hc0 HSx HBx hno hq
  go_wp2_with fail
  refine (keep_get w5 w.heap.size g _ _ _ _ _ _ HS.out i (wf_i64 (by omega)) (by simp [getA_nil])).mono ?_
  rintro e w6 ⟨v5, hv_, hR, hb_⟩
  rw [getA_nil] at hv_ hR
  obtain rfl := hv_
  have hR : Kd.R (Kd.int .u8) 5 w6 w5.heap.size (fun _ => True) v5 [] := hR
  obtain ⟨A5, c5, e5⟩ := Kd.R_slice hR
  subst e5
  have HR5 := Aside0.mk hR
  have HSn := Aside0.mk (HS.out.below hb_)
  have HBn := Aside0.mk (below_step HB.out hb_)
  clear hR hb_ HS HB
  have HS := HSn
  have HB := HBn
  clear HSn HBn
  go_wp2_with fail
  refine (keep_known w6).mono ?_
  rintro e w7 ⟨rfl, hb_⟩
  have HSn := Aside0.mk (HS.out.below hb_)
  have HBn := Aside0.mk (below_step HB.out hb_)
  have HR7 := Aside0.mk (Kd.R_below HR5.out hb_)
  clear hb_ HS HB HR5
  have HS := HSn
  have HB := HBn
  clear HSn HBn
  go_wp2
  go_ret
  exact ⟨by first | rfl | simp, HB.out⟩
set_option maxRecDepth 100000 in
set_option maxHeartbeats 8000000 in
theorem order_010 (i a b : Int) (w : World) (hi : 0 ≤ i ∧ i ≤ 255) (ha : 0 ≤ a ∧ a ≤ 255) (hb : 0 ≤ b ∧ b ≤ 255) :
    Calls Try.prog 4 #[.int .u8 i, .int .u8 a, .int .u8 b, .bool false, .bool true, .bool false] w fun e w' => e = .returned (.bool true) ∧ Below w.heap.size w w' := by
  have hwi : wrap64 i = i := IntWalk.wrap64_in _ (by omega)
  go_enter Try.func4, Try.ntmps4
  go_wp2_with fail
  refine (keep_new w).mono ?_
  rintro e w1 ⟨g, m1, m2, rfl, hS, hb_⟩
  have HS := Aside0.mk hS
  have HB := Aside0.mk hb_
  clear hS hb_
  go_wp2_with fail
  have hb0 := below_alloc (Below.refl w1.heap.size w1) (.cells #[.int .u8 a] 5)
  have hc0 := C_lit (k := .u8) [a] (blk_new w1 (.cells #[.int .u8 a] 5)) rfl (by simp)
  generalize w1.alloc (.cells #[.int .u8 a] 5) = wx at hb0 hc0 ⊢
  have HSx := Aside0.mk (HS.out.below hb0)
  have HBx := Aside0.mk (below_step HB.out hb0)
  clear HS HB
  refine (keep_put wx w.heap.size g _ _ _ _ _ _ HSx.out HBx.out.size (by simp) (by simp) i _ 1 [a] hc0 (by simp) (by omega) (by simp)).mono ?_
  rintro e w2 ⟨rfl, m21, lo1, hS, hV, _⟩
  have HS := Aside0.mk (show Sto w2 w.heap.size g _ _ _ ([], []) ([(i, [a])], []) [.put i [a]] from hS)
  have HB := Aside0.mk (hV.lift HSx.out HBx.out HBx.out.size).1
  clear hS hV hb0 hc0 HSx HBx
  go_wp2_with fail
  have hb0 := below_alloc (Below.refl w2.heap.size w2) (.cells #[.int .u8 b] 5)
  have hc0 := C_lit (k := .u8) [b] (blk_new w2 (.cells #[.int .u8 b] 5)) rfl (by simp)
  generalize w2.alloc (.cells #[.int .u8 b] 5) = wx at hb0 hc0 ⊢
  have HSx := Aside0.mk (HS.out.below hb0)
  have HBx := Aside0.mk (below_step HB.out hb0)
  clear HS HB
  refine (keep_put wx w.heap.size g _ _ _ _ _ _ HSx.out HBx.out.size (by simp) (by simp) i _ 1 [b] hc0 (by simp) (by omega) (by simp)).mono ?_
  rintro e w3 ⟨rfl, m22, lo2, hS, hV, _⟩
  have HS := Aside0.mk (show Sto w3 w.heap.size g _ _ _ ([], []) ([(i, [b]), (i, [a])], []) [.put i [a], .put i [b]] from hS)
  have HB := Aside0.mk (hV.lift HSx.out HBx.out HBx.out.size).1
  clear hS hV hb0 hc0 HSx HBx
  go_wp2_with fail
  refine (keep_clear w3 w.heap.size g _ _ _ _ _ _ HS.out HB.out.size (by simp) (by simp)).mono ?_
  rintro e w4 ⟨⟨rv3, rfl⟩, m23, lo3, hS, hV, _⟩
  have HSn := Aside0.mk (show Sto w4 w.heap.size g _ _ _ ([], []) ([], []) [.put i [a], .put i [b], .clear] from hS)
  have HBn := Aside0.mk (hV.lift HS.out HB.out HB.out.size).1
  clear hS hV HS HB
  have HS := HSn
  have HB := HBn
  clear HSn HBn
  go_wp2_with fail
  have hb0 := below_alloc (Below.refl w4.heap.size w4) (.cells #[.bool false, .bool true, .bool false] 4)
  have hc0 := blk_new w4 (.cells #[.bool false, .bool true, .bool false] 4)
  generalize hq : w4.heap.size = gk at hc0 ⊢
  generalize w4.alloc (.cells #[.bool false, .bool true, .bool false] 4) = wx at hb0 hc0 ⊢
  have HSx := Aside0.mk (HS.out.below hb0)
  have HBx := Aside0.mk (below_step HB.out hb0)
  have hno : ∀ k, Own g m1 m23 lo3 k → k ≠ gk := fun k q e => by have := HS.out.lt q; omega
  clear HS HB
  refine (keep_crash wx w.heap.size g _ _ _ _ _ _ HSx.out HBx.out.size (by simp) (some ⟨gk, 0, none⟩) 3 [false, true, false] (fun w' hk => B_lit [false, true, false] (blk_kept hc0 hk (fun q => hno gk q rfl)) rfl (by simp)) (Nat.le_refl _)).mono ?_
  rintro e w5 ⟨⟨rv4, rfl⟩, m14, m24, hS, hV, _⟩
  have HS := Aside0.mk (show Sto w5 w.heap.size g _ _ _ ([(i, [b])], []) ([(i, [b])], []) [] from hS)
  have HB := Aside0.mk (hV.lift HSx.out HBx.out HBx.out.size).1
  clear hS hV hb0 hc0 HSx HBx hno hq
  go_wp2_with fail
  refine (keep_get w5 w.heap.size g _ _ _ _ _ _ HS.out i (wf_i64 (by omega)) (by rw [getA_hit]; simp)).mono ?_
  rintro e w6 ⟨v5, hv_, hR, hb_⟩
  rw [getA_hit] at hv_ hR
  obtain rfl := hv_
  have hR : Kd.R (Kd.int .u8) 5 w6 w5.heap.size (fun _ => True) v5 [b] := hR
  obtain ⟨A5, c5, e5⟩ := Kd.R_slice hR
  subst e5
  have HR5 := Aside0.mk hR
  have HSn := Aside0.mk (HS.out.below hb_)
  have HBn := Aside0.mk (below_step HB.out hb_)
  clear hR hb_ HS HB
  have HS := HSn
  have HB := HBn
  clear HSn HBn
  go_wp2_with fail
  refine (keep_known w6).mono ?_
  rintro e w7 ⟨rfl, hb_⟩
  have HSn := Aside0.mk (HS.out.below hb_)
  have HBn := Aside0.mk (below_step HB.out hb_)
  have HR7 := Aside0.mk (Kd.R_below HR5.out hb_)
  clear hb_ HS HB HR5
  have HS := HSn
  have HB := HBn
  clear HSn HBn
  obtain ⟨ad, hA, hc⟩ := Kd.at_int (Kd.R_reads' HR7.out).2.2 0 (by omega) (by simp)
  subst hA
  have hc' : w7.cell? (ad.add 0) = some (.int .u8 b) := hc
  have hc2 : w7.cell? ad = some (.int .u8 b) := by
    have h_ : ad.add 0 = ad := by simp [Addr.add]
    rw [h_] at hc'; exact hc'
  clear hc
  go_wp2_with fail
  refine (keep_held w7 w.heap.size g _ _ _ _ _ _ HS.out).mono ?_
  rintro e w8 ⟨v8, l8, rfl, hR8, hl8, hby, hbits, hb_⟩
  obtain ⟨A8, c8, e8⟩ := Kd.R_slice hR8
  subst e8
  have HB8 := Aside0.mk (below_step HB.out hb_)
  have HR8 := Aside0.mk hR8
  have hcount : scullerref03_Count.f 10000 l8 = some 1 := by
    rw [refcount_eq hby (by omega) 10000 (by omega), hl8, cb_single (i := i.toNat) (by omega) (fun j hj => by
      rw [hbits j (by omega), getA_one]
      by_cases q : i = (j : Int)
      · rw [decide_eq_true q, decide_eq_true (by omega)]
      · rw [decide_eq_false q, decide_eq_false (by omega)])]
    rfl
  have HCN := Aside0.mk hcount
  clear hR8 hl8 hby hbits hb_ hcount
  go_wp2_with fail
  refine (scullerref03_Count.calls 10000 A8 c8 l8 1 w8 (Kd.R_reads' HR8.out).2.2 (Kd.R_reads' HR8.out).2.1 HCN.out).mono ?_
  rintro e w9 ⟨rfl, hb_⟩
  have HB9 := Aside0.mk (below_step HB8.out hb_.below)
  clear hb_
  go_wp2
  go_ret
  exact ⟨by first | rfl | simp, HB9.out⟩
set_option maxRecDepth 100000 in
set_option maxHeartbeats 8000000 in
theorem order_011 (i a b : Int) (w : World) (hi : 0 ≤ i ∧ i ≤ 255) (ha : 0 ≤ a ∧ a ≤ 255) (hb : 0 ≤ b ∧ b ≤ 255) :
    Calls Try.prog 4 #[.int .u8 i, .int .u8 a, .int .u8 b, .bool false, .bool true, .bool true] w fun e w' => e = .returned (.bool true) ∧ Below w.heap.size w w' := by
  have hwi : wrap64 i = i := IntWalk.wrap64_in _ (by omega)
  go_enter Try.func4, Try.ntmps4
  go_wp2_with fail
  refine (keep_new w).mono ?_
  rintro e w1 ⟨g, m1, m2, rfl, hS, hb_⟩
  have HS := Aside0.mk hS
  have HB := Aside0.mk hb_
  clear hS hb_
  go_wp2_with fail
  have hb0 := below_alloc (Below.refl w1.heap.size w1) (.cells #[.int .u8 a] 5)
  have hc0 := C_lit (k := .u8) [a] (blk_new w1 (.cells #[.int .u8 a] 5)) rfl (by simp)
  generalize w1.alloc (.cells #[.int .u8 a] 5) = wx at hb0 hc0 ⊢
  have HSx := Aside0.mk (HS.out.below hb0)
  have HBx := Aside0.mk (below_step HB.out hb0)
  clear HS HB
  refine (keep_put wx w.heap.size g _ _ _ _ _ _ HSx.out HBx.out.size (by simp) (by simp) i _ 1 [a] hc0 (by simp) (by omega) (by simp)).mono ?_
  rintro e w2 ⟨rfl, m21, lo1, hS, hV, _⟩
  have HS := Aside0.mk (show Sto w2 w.heap.size g _ _ _ ([], []) ([(i, [a])], []) [.put i [a]] from hS)
  have HB := Aside0.mk (hV.lift HSx.out HBx.out HBx.out.size).1
  clear hS hV hb0 hc0 HSx HBx
  go_wp2_with fail
  have hb0 := below_alloc (Below.refl w2.heap.size w2) (.cells #[.int .u8 b] 5)
  have hc0 := C_lit (k := .u8) [b] (blk_new w2 (.cells #[.int .u8 b] 5)) rfl (by simp)
  generalize w2.alloc (.cells #[.int .u8 b] 5) = wx at hb0 hc0 ⊢
  have HSx := Aside0.mk (HS.out.below hb0)
  have HBx := Aside0.mk (below_step HB.out hb0)
  clear HS HB
  refine (keep_put wx w.heap.size g _ _ _ _ _ _ HSx.out HBx.out.size (by simp) (by simp) i _ 1 [b] hc0 (by simp) (by omega) (by simp)).mono ?_
  rintro e w3 ⟨rfl, m22, lo2, hS, hV, _⟩
  have HS := Aside0.mk (show Sto w3 w.heap.size g _ _ _ ([], []) ([(i, [b]), (i, [a])], []) [.put i [a], .put i [b]] from hS)
  have HB := Aside0.mk (hV.lift HSx.out HBx.out HBx.out.size).1
  clear hS hV hb0 hc0 HSx HBx
  go_wp2_with fail
  refine (keep_clear w3 w.heap.size g _ _ _ _ _ _ HS.out HB.out.size (by simp) (by simp)).mono ?_
  rintro e w4 ⟨⟨rv3, rfl⟩, m23, lo3, hS, hV, _⟩
  have HSn := Aside0.mk (show Sto w4 w.heap.size g _ _ _ ([], []) ([], []) [.put i [a], .put i [b], .clear] from hS)
  have HBn := Aside0.mk (hV.lift HS.out HB.out HB.out.size).1
  clear hS hV HS HB
  have HS := HSn
  have HB := HBn
  clear HSn HBn
  go_wp2_with fail
  have hb0 := below_alloc (Below.refl w4.heap.size w4) (.cells #[.bool false, .bool true, .bool true] 4)
  have hc0 := blk_new w4 (.cells #[.bool false, .bool true, .bool true] 4)
  generalize hq : w4.heap.size = gk at hc0 ⊢
  generalize w4.alloc (.cells #[.bool false, .bool true, .bool true] 4) = wx at hb0 hc0 ⊢
  have HSx := Aside0.mk (HS.out.below hb0)
  have HBx := Aside0.mk (below_step HB.out hb0)
  have hno : ∀ k, Own g m1 m23 lo3 k → k ≠ gk := fun k q e => by have := HS.out.lt q; omega
  clear HS HB
  refine (keep_crash wx w.heap.size g _ _ _ _ _ _ HSx.out HBx.out.size (by simp) (some ⟨gk, 0, none⟩) 3 [false, true, true] (fun w' hk => B_lit [false, true, true] (blk_kept hc0 hk (fun q => hno gk q rfl)) rfl (by simp)) (Nat.le_refl _)).mono ?_
  rintro e w5 ⟨⟨rv4, rfl⟩, m14, m24, hS, hV, _⟩
  have HS := Aside0.mk (show Sto w5 w.heap.size g _ _ _ ([], []) ([], []) [] from hS)
  have HB := Aside0.mk (hV.lift HSx.out HBx.out HBx.out.size).1
  clear hS hV hb0 hc0 HSx HBx hno hq
  go_wp2_with fail
  refine (keep_get w5 w.heap.size g _ _ _ _ _ _ HS.out i (wf_i64 (by omega)) (by simp [getA_nil])).mono ?_
  rintro e w6 ⟨v5, hv_, hR, hb_⟩
  rw [getA_nil] at hv_ hR
  obtain rfl := hv_
  have hR : Kd.R (Kd.int .u8) 5 w6 w5.heap.size (fun _ => True) v5 [] := hR
  obtain ⟨A5, c5, e5⟩ := Kd.R_slice hR
  subst e5
  have HR5 := Aside0.mk hR
  have HSn := Aside0.mk (HS.out.below hb_)
  have HBn := Aside0.mk (below_step HB.out hb_)
  clear hR hb_ HS HB
  have HS := HSn
  have HB := HBn
  clear HSn HBn
  go_wp2_with fail
  refine (keep_known w6).mono ?_
  rintro e w7 ⟨rfl, hb_⟩
  have HSn := Aside0.mk (HS.out.below hb_)
  have HBn := Aside0.mk (below_step HB.out hb_)
  have HR7 := Aside0.mk (Kd.R_below HR5.out hb_)
  clear hb_ HS HB HR5
  have HS := HSn
  have HB := HBn
  clear HSn HBn
  go_wp2
  go_ret
  exact ⟨by first | rfl | simp, HB.out⟩
set_option maxRecDepth 100000 in
set_option maxHeartbeats 8000000 in
theorem order_100 (i a b : Int) (w : World) (hi : 0 ≤ i ∧ i ≤ 255) (ha : 0 ≤ a ∧ a ≤ 255) (hb : 0 ≤ b ∧ b ≤ 255) :
    Calls Try.prog 4 #[.int .u8 i, .int .u8 a, .int .u8 b, .bool true, .bool false, .bool false] w fun e w' => e = .returned (.bool true) ∧ Below w.heap.size w w' := by
  have hwi : wrap64 i = i := IntWalk.wrap64_in _ (by omega)
  go_enter Try.func4, Try.ntmps4
  go_wp2_with fail
  refine (keep_new w).mono ?_
  rintro e w1 ⟨g, m1, m2, rfl, hS, hb_⟩
  have HS := Aside0.mk hS
  have HB := Aside0.mk hb_
  clear hS hb_
  go_wp2_with fail
  have hb0 := below_alloc (Below.refl w1.heap.size w1) (.cells #[.int .u8 a] 5)
  have hc0 := C_lit (k := .u8) [a] (blk_new w1 (.cells #[.int .u8 a] 5)) rfl (by simp)
  generalize w1.alloc (.cells #[.int .u8 a] 5) = wx at hb0 hc0 ⊢
  have HSx := Aside0.mk (HS.out.below hb0)
  have HBx := Aside0.mk (below_step HB.out hb0)
  clear HS HB
  refine (keep_put wx w.heap.size g _ _ _ _ _ _ HSx.out HBx.out.size (by simp) (by simp) i _ 1 [a] hc0 (by simp) (by omega) (by simp)).mono ?_
  rintro e w2 ⟨rfl, m21, lo1, hS, hV, _⟩
  have HS := Aside0.mk (show Sto w2 w.heap.size g _ _ _ ([], []) ([(i, [a])], []) [.put i [a]] from hS)
  have HB := Aside0.mk (hV.lift HSx.out HBx.out HBx.out.size).1
  clear hS hV hb0 hc0 HSx HBx
  go_wp2_with fail
  have hb0 := below_alloc (Below.refl w2.heap.size w2) (.cells #[.int .u8 b] 5)
  have hc0 := C_lit (k := .u8) [b] (blk_new w2 (.cells #[.int .u8 b] 5)) rfl (by simp)
  generalize w2.alloc (.cells #[.int .u8 b] 5) = wx at hb0 hc0 ⊢
  have HSx := Aside0.mk (HS.out.below hb0)
  have HBx := Aside0.mk (below_step HB.out hb0)
  clear HS HB
  refine (keep_put wx w.heap.size g _ _ _ _ _ _ HSx.out HBx.out.size (by simp) (by simp) i _ 1 [b] hc0 (by simp) (by omega) (by simp)).mono ?_
  rintro e w3 ⟨rfl, m22, lo2, hS, hV, _⟩
  have HS := Aside0.mk (show Sto w3 w.heap.size g _ _ _ ([], []) ([(i, [b]), (i, [a])], []) [.put i [a], .put i [b]] from hS)
  have HB := Aside0.mk (hV.lift HSx.out HBx.out HBx.out.size).1
  clear hS hV hb0 hc0 HSx HBx
  go_wp2_with fail
  refine (keep_clear w3 w.heap.size g _ _ _ _ _ _ HS.out HB.out.size (by simp) (by simp)).mono ?_
  rintro e w4 ⟨⟨rv3, rfl⟩, m23, lo3, hS, hV, _⟩
  have HSn := Aside0.mk (show Sto w4 w.heap.size g _ _ _ ([], []) ([], []) [.put i [a], .put i [b], .clear] from hS)
  have HBn := Aside0.mk (hV.lift HS.out HB.out HB.out.size).1
  clear hS hV HS HB
  have HS := HSn
  have HB := HBn
  clear HSn HBn
  go_wp2_with fail
  have hb0 := below_alloc (Below.refl w4.heap.size w4) (.cells #[.bool true, .bool false, .bool false] 4)
  have hc0 := blk_new w4 (.cells #[.bool true, .bool false, .bool false] 4)
  generalize hq : w4.heap.size = gk at hc0 ⊢
  generalize w4.alloc (.cells #[.bool true, .bool false, .bool false] 4) = wx at hb0 hc0 ⊢
  have HSx := Aside0.mk (HS.out.below hb0)
  have HBx := Aside0.mk (below_step HB.out hb0)
  have hno : ∀ k, Own g m1 m23 lo3 k → k ≠ gk := fun k q e => by have := HS.out.lt q; omega
  clear HS HB
  refine (keep_crash wx w.heap.size g _ _ _ _ _ _ HSx.out HBx.out.size (by simp) (some ⟨gk, 0, none⟩) 3 [true, false, false] (fun w' hk => B_lit [true, false, false] (blk_kept hc0 hk (fun q => hno gk q rfl)) rfl (by simp)) (Nat.le_refl _)).mono ?_
  rintro e w5 ⟨⟨rv4, rfl⟩, m14, m24, hS, hV, _⟩
  have HS := Aside0.mk (show Sto w5 w.heap.size g _ _ _ ([(i, [a])], []) ([(i, [a])], []) [] from hS)
  have HB := Aside0.mk (hV.lift HSx.out HBx.out HBx.out.size).1
  clear hS hV hb0 hc0 HSx HBx hno hq
  go_wp2_with fail
  refine (keep_get w5 w.heap.size g _ _ _ _ _ _ HS.out i (wf_i64 (by omega)) (by rw [getA_hit]; simp)).mono ?_
  rintro e w6 ⟨v5, hv_, hR, hb_⟩
  rw [getA_hit] at hv_ hR
  obtain rfl := hv_
  have hR : Kd.R (Kd.int .u8) 5 w6 w5.heap.size (fun _ => True) v5 [a] := hR
  obtain ⟨A5, c5, e5⟩ := Kd.R_slice hR
  subst e5
  have HR5 := Aside0.mk hR
  have HSn := Aside0.mk (HS.out.below hb_)
  have HBn := Aside0.mk (below_step HB.out hb_)
  clear hR hb_ HS HB
  have HS := HSn
  have HB := HBn
  clear HSn HBn
  go_wp2_with fail
  refine (keep_known w6).mono ?_
  rintro e w7 ⟨rfl, hb_⟩
  have HSn := Aside0.mk (HS.out.below hb_)
  have HBn := Aside0.mk (below_step HB.out hb_)
  have HR7 := Aside0.mk (Kd.R_below HR5.out hb_)
  clear hb_ HS HB HR5
  have HS := HSn
  have HB := HBn
  clear HSn HBn
  obtain ⟨ad, hA, hc⟩ := Kd.at_int (Kd.R_reads' HR7.out).2.2 0 (by omega) (by simp)
  subst hA
  have hc' : w7.cell? (ad.add 0) = some (.int .u8 a) := hc
  have hc2 : w7.cell? ad = some (.int .u8 a) := by
    have h_ : ad.add 0 = ad := by simp [Addr.add]
    rw [h_] at hc'; exact hc'
  clear hc
  go_wp2_with fail
  refine (keep_held w7 w.heap.size g _ _ _ _ _ _ HS.out).mono ?_
  rintro e w8 ⟨v8, l8, rfl, hR8, hl8, hby, hbits, hb_⟩
  obtain ⟨A8, c8, e8⟩ := Kd.R_slice hR8
  subst e8
  have HB8 := Aside0.mk (below_step HB.out hb_)
  have HR8 := Aside0.mk hR8
  have hcount : scullerref03_Count.f 10000 l8 = some 1 := by
    rw [refcount_eq hby (by omega) 10000 (by omega), hl8, cb_single (i := i.toNat) (by omega) (fun j hj => by
      rw [hbits j (by omega), getA_one]
      by_cases q : i = (j : Int)
      · rw [decide_eq_true q, decide_eq_true (by omega)]
      · rw [decide_eq_false q, decide_eq_false (by omega)])]
    rfl
  have HCN := Aside0.mk hcount
  clear hR8 hl8 hby hbits hb_ hcount
  go_wp2_with fail
  refine (scullerref03_Count.calls 10000 A8 c8 l8 1 w8 (Kd.R_reads' HR8.out).2.2 (Kd.R_reads' HR8.out).2.1 HCN.out).mono ?_
  rintro e w9 ⟨rfl, hb_⟩
  have HB9 := Aside0.mk (below_step HB8.out hb_.below)
  clear hb_
  go_wp2
  go_ret
  exact ⟨by first | rfl | simp, HB9.out⟩
set_option maxRecDepth 100000 in
set_option maxHeartbeats 8000000 in
theorem order_101 (i a b : Int) (w : World) (hi : 0 ≤ i ∧ i ≤ 255) (ha : 0 ≤ a ∧ a ≤ 255) (hb : 0 ≤ b ∧ b ≤ 255) :
    Calls Try.prog 4 #[.int .u8 i, .int .u8 a, .int .u8 b, .bool true, .bool false, .bool true] w fun e w' => e = .returned (.bool true) ∧ Below w.heap.size w w' := by
  have hwi : wrap64 i = i := IntWalk.wrap64_in _ (by omega)
  go_enter Try.func4, Try.ntmps4
  go_wp2_with fail
  refine (keep_new w).mono ?_
  rintro e w1 ⟨g, m1, m2, rfl, hS, hb_⟩
  have HS := Aside0.mk hS
  have HB := Aside0.mk hb_
  clear hS hb_
  go_wp2_with fail
  have hb0 := below_alloc (Below.refl w1.heap.size w1) (.cells #[.int .u8 a] 5)
  have hc0 := C_lit (k := .u8) [a] (blk_new w1 (.cells #[.int .u8 a] 5)) rfl (by simp)
  generalize w1.alloc (.cells #[.int .u8 a] 5) = wx at hb0 hc0 ⊢
  have HSx := Aside0.mk (HS.out.below hb0)
  have HBx := Aside0.mk (below_step HB.out hb0)
  clear HS HB
  refine (keep_put wx w.heap.size g _ _ _ _ _ _ HSx.out HBx.out.size (by simp) (by simp) i _ 1 [a] hc0 (by simp) (by omega) (by simp)).mono ?_
  rintro e w2 ⟨rfl, m21, lo1, hS, hV, _⟩
  have HS := Aside0.mk (show Sto w2 w.heap.size g _ _ _ ([], []) ([(i, [a])], []) [.put i [a]] from hS)
  have HB := Aside0.mk (hV.lift HSx.out HBx.out HBx.out.size).1
  clear hS hV hb0 hc0 HSx HBx
  go_wp2_with fail
  have hb0 := below_alloc (Below.refl w2.heap.size w2) (.cells #[.int .u8 b] 5)
  have hc0 := C_lit (k := .u8) [b] (blk_new w2 (.cells #[.int .u8 b] 5)) rfl (by simp)
  generalize w2.alloc (.cells #[.int .u8 b] 5) = wx at hb0 hc0 ⊢
  have HSx := Aside0.mk (HS.out.below hb0)
  have HBx := Aside0.mk (below_step HB.out hb0)
  clear HS HB
  refine (keep_put wx w.heap.size g _ _ _ _ _ _ HSx.out HBx.out.size (by simp) (by simp) i _ 1 [b] hc0 (by simp) (by omega) (by simp)).mono ?_
  rintro e w3 ⟨rfl, m22, lo2, hS, hV, _⟩
  have HS := Aside0.mk (show Sto w3 w.heap.size g _ _ _ ([], []) ([(i, [b]), (i, [a])], []) [.put i [a], .put i [b]] from hS)
  have HB := Aside0.mk (hV.lift HSx.out HBx.out HBx.out.size).1
  clear hS hV hb0 hc0 HSx HBx
  go_wp2_with fail
  refine (keep_clear w3 w.heap.size g _ _ _ _ _ _ HS.out HB.out.size (by simp) (by simp)).mono ?_
  rintro e w4 ⟨⟨rv3, rfl⟩, m23, lo3, hS, hV, _⟩
  have HSn := Aside0.mk (show Sto w4 w.heap.size g _ _ _ ([], []) ([], []) [.put i [a], .put i [b], .clear] from hS)
  have HBn := Aside0.mk (hV.lift HS.out HB.out HB.out.size).1
  clear hS hV HS HB
  have HS := HSn
  have HB := HBn
  clear HSn HBn
  go_wp2_with fail
  have hb0 := below_alloc (Below.refl w4.heap.size w4) (.cells #[.bool true, .bool false, .bool true] 4)
  have hc0 := blk_new w4 (.cells #[.bool true, .bool false, .bool true] 4)
  generalize hq : w4.heap.size = gk at hc0 ⊢
  generalize w4.alloc (.cells #[.bool true, .bool false, .bool true] 4) = wx at hb0 hc0 ⊢
  have HSx := Aside0.mk (HS.out.below hb0)
  have HBx := Aside0.mk (below_step HB.out hb0)
  have hno : ∀ k, Own g m1 m23 lo3 k → k ≠ gk := fun k q e => by have := HS.out.lt q; omega
  clear HS HB
  refine (keep_crash wx w.heap.size g _ _ _ _ _ _ HSx.out HBx.out.size (by simp) (some ⟨gk, 0, none⟩) 3 [true, false, true] (fun w' hk => B_lit [true, false, true] (blk_kept hc0 hk (fun q => hno gk q rfl)) rfl (by simp)) (Nat.le_refl _)).mono ?_
  rintro e w5 ⟨⟨rv4, rfl⟩, m14, m24, hS, hV, _⟩
  have HS := Aside0.mk (show Sto w5 w.heap.size g _ _ _ ([], []) ([], []) [] from hS)
  have HB := Aside0.mk (hV.lift HSx.out HBx.out HBx.out.size).1
  clear hS hV hb0 hc0 HSx HBx hno hq
  go_wp2_with fail
  refine (keep_get w5 w.heap.size g _ _ _ _ _ _ HS.out i (wf_i64 (by omega)) (by simp [getA_nil])).mono ?_
  rintro e w6 ⟨v5, hv_, hR, hb_⟩
  rw [getA_nil] at hv_ hR
  obtain rfl := hv_
  have hR : Kd.R (Kd.int .u8) 5 w6 w5.heap.size (fun _ => True) v5 [] := hR
  obtain ⟨A5, c5, e5⟩ := Kd.R_slice hR
  subst e5
  have HR5 := Aside0.mk hR
  have HSn := Aside0.mk (HS.out.below hb_)
  have HBn := Aside0.mk (below_step HB.out hb_)
  clear hR hb_ HS HB
  have HS := HSn
  have HB := HBn
  clear HSn HBn
  go_wp2_with fail
  refine (keep_known w6).mono ?_
  rintro e w7 ⟨rfl, hb_⟩
  have HSn := Aside0.mk (HS.out.below hb_)
  have HBn := Aside0.mk (below_step HB.out hb_)
  have HR7 := Aside0.mk (Kd.R_below HR5.out hb_)
  clear hb_ HS HB HR5
  have HS := HSn
  have HB := HBn
  clear HSn HBn
  go_wp2
  go_ret
  exact ⟨by first | rfl | simp, HB.out⟩
set_option maxRecDepth 100000 in
set_option maxHeartbeats 8000000 in
theorem order_110 (i a b : Int) (w : World) (hi : 0 ≤ i ∧ i ≤ 255) (ha : 0 ≤ a ∧ a ≤ 255) (hb : 0 ≤ b ∧ b ≤ 255) :
    Calls Try.prog 4 #[.int .u8 i, .int .u8 a, .int .u8 b, .bool true, .bool true, .bool false] w fun e w' => e = .returned (.bool true) ∧ Below w.heap.size w w' := by
  have hwi : wrap64 i = i := IntWalk.wrap64_in _ (by omega)
  go_enter Try.func4, Try.ntmps4
  go_wp2_with fail
  refine (keep_new w).mono ?_
  rintro e w1 ⟨g, m1, m2, rfl, hS, hb_⟩
  have HS := Aside0.mk hS
  have HB := Aside0.mk hb_
  clear hS hb_
  go_wp2_with fail
  have hb0 := below_alloc (Below.refl w1.heap.size w1) (.cells #[.int .u8 a] 5)
  have hc0 := C_lit (k := .u8) [a] (blk_new w1 (.cells #[.int .u8 a] 5)) rfl (by simp)
  generalize w1.alloc (.cells #[.int .u8 a] 5) = wx at hb0 hc0 ⊢
  have HSx := Aside0.mk (HS.out.below hb0)
  have HBx := Aside0.mk (below_step HB.out hb0)
  clear HS HB
  refine (keep_put wx w.heap.size g _ _ _ _ _ _ HSx.out HBx.out.size (by simp) (by simp) i _ 1 [a] hc0 (by simp) (by omega) (by simp)).mono ?_
  rintro e w2 ⟨rfl, m21, lo1, hS, hV, _⟩
  have HS := Aside0.mk (show Sto w2 w.heap.size g _ _ _ ([], []) ([(i, [a])], []) [.put i [a]] from hS)
  have HB := Aside0.mk (hV.lift HSx.out HBx.out HBx.out.size).1
  clear hS hV hb0 hc0 HSx HBx
  go_wp2_with fail
  have hb0 := below_alloc (Below.refl w2.heap.size w2) (.cells #[.int .u8 b] 5)
  have hc0 := C_lit (k := .u8) [b] (blk_new w2 (.cells #[.int .u8 b] 5)) rfl (by simp)
  generalize w2.alloc (.cells #[.int .u8 b] 5) = wx at hb0 hc0 ⊢
  have HSx := Aside0.mk (HS.out.below hb0)
  have HBx := Aside0.mk (below_step HB.out hb0)
  clear HS HB
  refine (keep_put wx w.heap.size g _ _ _ _ _ _ HSx.out HBx.out.size (by simp) (by simp) i _ 1 [b] hc0 (by simp) (by omega) (by simp)).mono ?_
  rintro e w3 ⟨rfl, m22, lo2, hS, hV, _⟩
  have HS := Aside0.mk (show Sto w3 w.heap.size g _ _ _ ([], []) ([(i, [b]), (i, [a])], []) [.put i [a], .put i [b]] from hS)
  have HB := Aside0.mk (hV.lift HSx.out HBx.out HBx.out.size).1
  clear hS hV hb0 hc0 HSx HBx
  go_wp2_with fail
  refine (keep_clear w3 w.heap.size g _ _ _ _ _ _ HS.out HB.out.size (by simp) (by simp)).mono ?_
  rintro e w4 ⟨⟨rv3, rfl⟩, m23, lo3, hS, hV, _⟩
  have HSn := Aside0.mk (show Sto w4 w.heap.size g _ _ _ ([], []) ([], []) [.put i [a], .put i [b], .clear] from hS)
  have HBn := Aside0.mk (hV.lift HS.out HB.out HB.out.size).1
  clear hS hV HS HB
  have HS := HSn
  have HB := HBn
  clear HSn HBn
  go_wp2_with fail
  have hb0 := below_alloc (Below.refl w4.heap.size w4) (.cells #[.bool true, .bool true, .bool false] 4)
  have hc0 := blk_new w4 (.cells #[.bool true, .bool true, .bool false] 4)
  generalize hq : w4.heap.size = gk at hc0 ⊢
  generalize w4.alloc (.cells #[.bool true, .bool true, .bool false] 4) = wx at hb0 hc0 ⊢
  have HSx := Aside0.mk (HS.out.below hb0)
  have HBx := Aside0.mk (below_step HB.out hb0)
  have hno : ∀ k, Own g m1 m23 lo3 k → k ≠ gk := fun k q e => by have := HS.out.lt q; omega
  clear HS HB
  refine (keep_crash wx w.heap.size g _ _ _ _ _ _ HSx.out HBx.out.size (by simp) (some ⟨gk, 0, none⟩) 3 [true, true, false] (fun w' hk => B_lit [true, true, false] (blk_kept hc0 hk (fun q => hno gk q rfl)) rfl (by simp)) (Nat.le_refl _)).mono ?_
  rintro e w5 ⟨⟨rv4, rfl⟩, m14, m24, hS, hV, _⟩
  have HS := Aside0.mk (show Sto w5 w.heap.size g _ _ _ ([(i, [b]), (i, [a])], []) ([(i, [b]), (i, [a])], []) [] from hS)
  have HB := Aside0.mk (hV.lift HSx.out HBx.out HBx.out.size).1
  clear hS hV hb0 hc0 HSx HBx hno hq
  go_wp2_with fail
  refine (keep_get w5 w.heap.size g _ _ _ _ _ _ HS.out i (wf_i64 (by omega)) (by rw [getA_hit]; simp)).mono ?_
  rintro e w6 ⟨v5, hv_, hR, hb_⟩
  rw [getA_hit] at hv_ hR
  obtain rfl := hv_
  have hR : Kd.R (Kd.int .u8) 5 w6 w5.heap.size (fun _ => True) v5 [b] := hR
  obtain ⟨A5, c5, e5⟩ := Kd.R_slice hR
  subst e5
  have HR5 := Aside0.mk hR
  have HSn := Aside0.mk (HS.out.below hb_)
  have HBn := Aside0.mk (below_step HB.out hb_)
  clear hR hb_ HS HB
  have HS := HSn
  have HB := HBn
  clear HSn HBn
  go_wp2_with fail
  refine (keep_known w6).mono ?_
  rintro e w7 ⟨rfl, hb_⟩
  have HSn := Aside0.mk (HS.out.below hb_)
  have HBn := Aside0.mk (below_step HB.out hb_)
  have HR7 := Aside0.mk (Kd.R_below HR5.out hb_)
  clear hb_ HS HB HR5
  have HS := HSn
  have HB := HBn
  clear HSn HBn
  obtain ⟨ad, hA, hc⟩ := Kd.at_int (Kd.R_reads' HR7.out).2.2 0 (by omega) (by simp)
  subst hA
  have hc' : w7.cell? (ad.add 0) = some (.int .u8 b) := hc
  have hc2 : w7.cell? ad = some (.int .u8 b) := by
    have h_ : ad.add 0 = ad := by simp [Addr.add]
    rw [h_] at hc'; exact hc'
  clear hc
  go_wp2_with fail
  refine (keep_held w7 w.heap.size g _ _ _ _ _ _ HS.out).mono ?_
  rintro e w8 ⟨v8, l8, rfl, hR8, hl8, hby, hbits, hb_⟩
  obtain ⟨A8, c8, e8⟩ := Kd.R_slice hR8
  subst e8
  have HB8 := Aside0.mk (below_step HB.out hb_)
  have HR8 := Aside0.mk hR8
  have hcount : scullerref03_Count.f 10000 l8 = some 1 := by
    rw [refcount_eq hby (by omega) 10000 (by omega), hl8, cb_single (i := i.toNat) (by omega) (fun j hj => by
      rw [hbits j (by omega), getA_two]
      by_cases q : i = (j : Int)
      · rw [decide_eq_true q, decide_eq_true (by omega)]
      · rw [decide_eq_false q, decide_eq_false (by omega)])]
    rfl
  have HCN := Aside0.mk hcount
  clear hR8 hl8 hby hbits hb_ hcount
  go_wp2_with fail
  refine (scullerref03_Count.calls 10000 A8 c8 l8 1 w8 (Kd.R_reads' HR8.out).2.2 (Kd.R_reads' HR8.out).2.1 HCN.out).mono ?_
  rintro e w9 ⟨rfl, hb_⟩
  have HB9 := Aside0.mk (below_step HB8.out hb_.below)
  clear hb_
  go_wp2
  go_ret
  exact ⟨by first | rfl | simp, HB9.out⟩
set_option maxRecDepth 100000 in
set_option maxHeartbeats 8000000 in
theorem order_111 (i a b : Int) (w : World) (hi : 0 ≤ i ∧ i ≤ 255) (ha : 0 ≤ a ∧ a ≤ 255) (hb : 0 ≤ b ∧ b ≤ 255) :
    Calls Try.prog 4 #[.int .u8 i, .int .u8 a, .int .u8 b, .bool true, .bool true, .bool true] w fun e w' => e = .returned (.bool true) ∧ Below w.heap.size w w' := by
  have hwi : wrap64 i = i := IntWalk.wrap64_in _ (by omega)
  go_enter Try.func4, Try.ntmps4
  go_wp2_with fail
  refine (keep_new w).mono ?_
  rintro e w1 ⟨g, m1, m2, rfl, hS, hb_⟩
  have HS := Aside0.mk hS
  have HB := Aside0.mk hb_
  clear hS hb_
  go_wp2_with fail
  have hb0 := below_alloc (Below.refl w1.heap.size w1) (.cells #[.int .u8 a] 5)
  have hc0 := C_lit (k := .u8) [a] (blk_new w1 (.cells #[.int .u8 a] 5)) rfl (by simp)
  generalize w1.alloc (.cells #[.int .u8 a] 5) = wx at hb0 hc0 ⊢
  have HSx := Aside0.mk (HS.out.below hb0)
  have HBx := Aside0.mk (below_step HB.out hb0)
  clear HS HB
  refine (keep_put wx w.heap.size g _ _ _ _ _ _ HSx.out HBx.out.size (by simp) (by simp) i _ 1 [a] hc0 (by simp) (by omega) (by simp)).mono ?_
  rintro e w2 ⟨rfl, m21, lo1, hS, hV, _⟩
  have HS := Aside0.mk (show Sto w2 w.heap.size g _ _ _ ([], []) ([(i, [a])], []) [.put i [a]] from hS)
  have HB := Aside0.mk (hV.lift HSx.out HBx.out HBx.out.size).1
  clear hS hV hb0 hc0 HSx HBx
  go_wp2_with fail
  have hb0 := below_alloc (Below.refl w2.heap.size w2) (.cells #[.int .u8 b] 5)
  have hc0 := C_lit (k := .u8) [b] (blk_new w2 (.cells #[.int .u8 b] 5)) rfl (by simp)
  generalize w2.alloc (.cells #[.int .u8 b] 5) = wx at hb0 hc0 ⊢
  have HSx := Aside0.mk (HS.out.below hb0)
  have HBx := Aside0.mk (below_step HB.out hb0)
  clear HS HB
  refine (keep_put wx w.heap.size g _ _ _ _ _ _ HSx.out HBx.out.size (by simp) (by simp) i _ 1 [b] hc0 (by simp) (by omega) (by simp)).mono ?_
  rintro e w3 ⟨rfl, m22, lo2, hS, hV, _⟩
  have HS := Aside0.mk (show Sto w3 w.heap.size g _ _ _ ([], []) ([(i, [b]), (i, [a])], []) [.put i [a], .put i [b]] from hS)
  have HB := Aside0.mk (hV.lift HSx.out HBx.out HBx.out.size).1
  clear hS hV hb0 hc0 HSx HBx
  go_wp2_with fail
  refine (keep_clear w3 w.heap.size g _ _ _ _ _ _ HS.out HB.out.size (by simp) (by simp)).mono ?_
  rintro e w4 ⟨⟨rv3, rfl⟩, m23, lo3, hS, hV, _⟩
  have HSn := Aside0.mk (show Sto w4 w.heap.size g _ _ _ ([], []) ([], []) [.put i [a], .put i [b], .clear] from hS)
  have HBn := Aside0.mk (hV.lift HS.out HB.out HB.out.size).1
  clear hS hV HS HB
  have HS := HSn
  have HB := HBn
  clear HSn HBn
  go_wp2_with fail
  have hb0 := below_alloc (Below.refl w4.heap.size w4) (.cells #[.bool true, .bool true, .bool true] 4)
  have hc0 := blk_new w4 (.cells #[.bool true, .bool true, .bool true] 4)
  generalize hq : w4.heap.size = gk at hc0 ⊢
  generalize w4.alloc (.cells #[.bool true, .bool true, .bool true] 4) = wx at hb0 hc0 ⊢
  have HSx := Aside0.mk (HS.out.below hb0)
  have HBx := Aside0.mk (below_step HB.out hb0)
  have hno : ∀ k, Own g m1 m23 lo3 k → k ≠ gk := fun k q e => by have := HS.out.lt q; omega
  clear HS HB
  refine (keep_crash wx w.heap.size g _ _ _ _ _ _ HSx.out HBx.out.size (by simp) (some ⟨gk, 0, none⟩) 3 [true, true, true] (fun w' hk => B_lit [true, true, true] (blk_kept hc0 hk (fun q => hno gk q rfl)) rfl (by simp)) (Nat.le_refl _)).mono ?_
  rintro e w5 ⟨⟨rv4, rfl⟩, m14, m24, hS, hV, _⟩
  have HS := Aside0.mk (show Sto w5 w.heap.size g _ _ _ ([], []) ([], []) [] from hS)
  have HB := Aside0.mk (hV.lift HSx.out HBx.out HBx.out.size).1
  clear hS hV hb0 hc0 HSx HBx hno hq
  go_wp2_with fail
  refine (keep_get w5 w.heap.size g _ _ _ _ _ _ HS.out i (wf_i64 (by omega)) (by simp [getA_nil])).mono ?_
  rintro e w6 ⟨v5, hv_, hR, hb_⟩
  rw [getA_nil] at hv_ hR
  obtain rfl := hv_
  have hR : Kd.R (Kd.int .u8) 5 w6 w5.heap.size (fun _ => True) v5 [] := hR
  obtain ⟨A5, c5, e5⟩ := Kd.R_slice hR
  subst e5
  have HR5 := Aside0.mk hR
  have HSn := Aside0.mk (HS.out.below hb_)
  have HBn := Aside0.mk (below_step HB.out hb_)
  clear hR hb_ HS HB
  have HS := HSn
  have HB := HBn
  clear HSn HBn
  go_wp2_with fail
  refine (keep_known w6).mono ?_
  rintro e w7 ⟨rfl, hb_⟩
  have HSn := Aside0.mk (HS.out.below hb_)
  have HBn := Aside0.mk (below_step HB.out hb_)
  have HR7 := Aside0.mk (Kd.R_below HR5.out hb_)
  clear hb_ HS HB HR5
  have HS := HSn
  have HB := HBn
  clear HSn HBn
  go_wp2
  go_ret
  exact ⟨by first | rfl | simp, HB.out⟩
/-- What the law KeepOrder computes. -/
def scullerlaw15_KeepOrder.f (a0 a1 a2 : Int) (a3 a4 a5 : Bool) : Option Bool := if (Lit.int .u8 a0).wf = true ∧ (Lit.int .u8 a1).wf = true ∧ (Lit.int .u8 a2).wf = true then some true else none
theorem scullerlaw15_KeepOrder.calls (a0 a1 a2 : Int) (a3 a4 a5 : Bool) (r : Bool) (w : World) (h : scullerlaw15_KeepOrder.f a0 a1 a2 a3 a4 a5 = some r) :
    Calls Try.prog 4 #[.int .u8 a0, .int .u8 a1, .int .u8 a2, .bool a3, .bool a4, .bool a5] w fun e w' => e = .returned (.bool r) ∧ Below w.heap.size w w' := by
  unfold scullerlaw15_KeepOrder.f at h
  split at h
  · rename_i hh
    obtain rfl := Option.some.inj h
    have h0 := bounds_u8 hh.1
    have h1 := bounds_u8 hh.2.1
    have h2 := bounds_u8 hh.2.2
    cases a3 <;> cases a4 <;> cases a5
    · exact order_000 a0 a1 a2 w h0 h1 h2
    · exact order_001 a0 a1 a2 w h0 h1 h2
    · exact order_010 a0 a1 a2 w h0 h1 h2
    · exact order_011 a0 a1 a2 w h0 h1 h2
    · exact order_100 a0 a1 a2 w h0 h1 h2
    · exact order_101 a0 a1 a2 w h0 h1 h2
    · exact order_110 a0 a1 a2 w h0 h1 h2
    · exact order_111 a0 a1 a2 w h0 h1 h2
  · cases h
end Go.Proofs.Ytliohoalackhiaa.E
