/- The document's Parse of a datagram: what it computes, of whatever bytes, in whatever memory; its body is a cut of what was handed in. -/
import Derived.Test.YtliohoalackhiaaZIgPackP
import Derived.Test.YtliohoalackhiaaZIx11
import Derived.Test.YtliohoalackhiaaZIx12
import Derived.Test.YtliohoalackhiaaZIx13
import Derived.Test.YtliohoalackhiaaZIx14
namespace Go.Proofs.Ytliohoalackhiaa.I
open Go.RowKit Go.Shelf Go.Proofs.YtliohoalackhiaaW.PrintWords Go.Proofs.YtliohoalackhiaaW.PrintLast Go.Proofs.YtliohoalackhiaaW.PrintMore
set_option linter.unusedVariables false
set_option linter.unusedSimpArgs false
attribute [local go_sem] Oper.semAt_some
set_option maxRecDepth 100000 in
set_option maxHeartbeats 2000000 in
theorem rparse_short (A0 : Option Addr) (c0 : Nat) (l0 : List Int) (w : World) (h21 : (l0.length : Int) < 21) :
    Calls Try.prog 89 #[.slice A0 l0.length c0] w fun e w' => e = .returned (.tuple #[.agg #[.int .i64 0, .int .u64 0, .int .i64 0, .int .i64 0, .int .u32 0, .slice none 0 0, .slice none 0 0], .int .i64 10]) ∧ Below w.heap.size w w' := by
  have h1 : decide ((l0.length : Int) < 21) = true := decide_eq_true h21
  clear h21
  go_enter Try.func89, Try.ntmps89
  go_wp2
  exact bodyPost_ret (v := .tuple #[.agg #[.int .i64 0, .int .u64 0, .int .i64 0, .int .i64 0, .int .u32 0, .slice none 0 0, .slice none 0 0], .int .i64 10]) (by simp [results, Try.results89, go_sem]) rfl ⟨rfl, (Below.refl _ _).alloc (Nat.le_refl _) _⟩
set_option maxRecDepth 100000 in
set_option maxHeartbeats 2000000 in
theorem rparse_sum (kk : Nat) (A0 : Option Addr) (c0 : Nat) (l0 : List Int) (w : World) (h21 : ¬ (l0.length : Int) < 21) (hr0 : Kd.C (Kd.int .u8) w A0 l0.length l0) (hc0 : l0.length ≤ c0) (h : scullerref02_Right.f kk l0 = some false) :
    Calls Try.prog 89 #[.slice A0 l0.length c0] w fun e w' => e = .returned (.tuple #[.agg #[.int .i64 0, .int .u64 0, .int .i64 0, .int .i64 0, .int .u32 0, .slice none 0 0, .slice none 0 0], .int .i64 12]) ∧ Below w.heap.size w w' := by
  have h1 : decide ((l0.length : Int) < 21) = false := decide_eq_false h21
  have HC := fun W h1 => scullerref02_Right.calls kk A0 c0 l0 false W h1 hc0 h
  have HR := Aside0.mk hr0
  clear h21 h hr0
  go_enter Try.func89, Try.ntmps89
  go_wp2_with fail
  refine (HC _ (Kd.C_alloc HR.out _)).mono ?_
  rintro e w1 ⟨rfl, hb⟩
  have hbk := blk_below (blk_new w (.cells #[.int .i64 0, .int .u64 0, .int .i64 0, .int .i64 0, .int .u32 0, .slice none 0 0, .slice none 0 0] 56)) hb
  have HB := Aside0.mk (below_step (below_alloc (Below.refl w.heap.size w) _) hb)
  have HK := Aside0.mk hbk
  have k0 : w1.cell? ⟨w.heap.size, 0, none⟩ = some (.int .i64 0) := (blk_cell hbk 0).trans rfl
  have k1 : w1.cell? ⟨w.heap.size, 1, none⟩ = some (.int .u64 0) := (blk_cell hbk 1).trans rfl
  have k2 : w1.cell? ⟨w.heap.size, 2, none⟩ = some (.int .i64 0) := (blk_cell hbk 2).trans rfl
  have k3 : w1.cell? ⟨w.heap.size, 3, none⟩ = some (.int .i64 0) := (blk_cell hbk 3).trans rfl
  have k4 : w1.cell? ⟨w.heap.size, 4, none⟩ = some (.int .u32 0) := (blk_cell hbk 4).trans rfl
  have k5 : w1.cell? ⟨w.heap.size, 5, none⟩ = some (.slice none 0 0) := (blk_cell hbk 5).trans rfl
  have k6 : w1.cell? ⟨w.heap.size, 6, none⟩ = some (.slice none 0 0) := (blk_cell hbk 6).trans rfl
  have kf0 : w1.frozen? ⟨w.heap.size, 0, none⟩ = false := blk_frozen hbk 0
  have kf1 : w1.frozen? ⟨w.heap.size, 1, none⟩ = false := blk_frozen hbk 1
  have kf2 : w1.frozen? ⟨w.heap.size, 2, none⟩ = false := blk_frozen hbk 2
  have kf3 : w1.frozen? ⟨w.heap.size, 3, none⟩ = false := blk_frozen hbk 3
  have kf4 : w1.frozen? ⟨w.heap.size, 4, none⟩ = false := blk_frozen hbk 4
  have kf5 : w1.frozen? ⟨w.heap.size, 5, none⟩ = false := blk_frozen hbk 5
  have kf6 : w1.frozen? ⟨w.heap.size, 6, none⟩ = false := blk_frozen hbk 6
  clear hb hbk
  go_wp2
  exact bodyPost_ret (v := .tuple #[.agg #[.int .i64 0, .int .u64 0, .int .i64 0, .int .i64 0, .int .u32 0, .slice none 0 0, .slice none 0 0], .int .i64 12]) (by simp [results, Try.results89, go_sem, k0, k1, k2, k3, k4, k5, k6]) rfl ⟨rfl, by (repeat (first | (with_reducible exact HB.out) | refine below_set ?_ (Nat.le_refl _)))⟩
set_option maxRecDepth 100000 in
set_option maxHeartbeats 16000000 in
theorem rparse_other (kk : Nat) (A0 : Option Addr) (c0 : Nat) (l0 : List Int) (w : World) (h21 : ¬ (l0.length : Int) < 21) (hr0 : Kd.C (Kd.int .u8) w A0 l0.length l0) (hc0 : l0.length ≤ c0) (h : scullerref02_Right.f kk l0 = some true) (b0 v1 v2 v3 v4 : Int) (e6 : rd l0 0 = b0) (e1 : scullerref01_Get.f kk (mid l0 1 9) = some v1) (e2 : scullerref13_get.f kk l0 9 2 = some v2) (e3 : scullerref13_get.f kk l0 11 2 = some v3) (e4 : scullerref13_get.f kk l0 13 4 = some v4) (kd vy : Int) (hkd : wrap64 b0 = kd) (hvy : IntKind.u32.wrap v4 = vy) (hne1 : kd ≠ 1) (c : List Int) (er : Int) (q : Bool) (hce : scullerref13_Encode.f kk kd v1 v2 v3 vy [] (mid l0 17 (l0.length - 4)) = some (c, er)) (hq : ((strOfNums c).toList == (strOfNums l0).toList) = q) (r0 r1 r2 r3 r4 : Int) (r5 r6 : List Int) (r7 : Int) (hres : (if er = 0 then (if q = true then some (kd, v1, v2, v3, vy, [], (mid l0 17 (l0.length - 4)), 0) else some (0, 0, 0, 0, 0, [], [], 11)) else some (0, 0, 0, 0, 0, [], [], 11)) = some (r0, r1, r2, r3, r4, r5, r6, r7)) :
    Calls Try.prog 89 #[.slice A0 l0.length c0] w fun e w' => ∃ (v5_ : Value) (Ab : Option Addr) (cb : Nat), e = .returned (.tuple #[.agg #[.int .i64 r0, .int .u64 r1, .int .i64 r2, .int .i64 r3, .int .u32 r4, v5_, .slice Ab r6.length cb], .int .i64 r7]) ∧ Kd.R (Kd.int .i64) 3 w' w.heap.size (fun _ => True) v5_ r5 ∧ Kd.C (Kd.int .u8) w' Ab r6.length r6 ∧ r6.length ≤ cb ∧ Below w.heap.size w w' := by
  have h1 : decide ((l0.length : Int) < 21) = false := decide_eq_false h21
  have HC := fun W h1 => scullerref02_Right.calls kk A0 c0 l0 true W h1 hc0 h
  have HR := Aside0.mk hr0
  have hmx : (l0.length : Int) ≤ 9223372036854775807 := by have := (Kd.reads_of_C (d := (0 : Int)) hr0).2.1; unfold maxLen at this; omega
  obtain ⟨ad0, e0, hcell0⟩ := Kd.at_int hr0 (0 : Int) (by omega) (by omega)
  obtain ⟨A1, q1, p1, g1⟩ := cut_at A0 c0 l0 1 9 (by omega) (by omega) hc0
  obtain ⟨A5, q5, p5, g5⟩ := cut_at A0 c0 l0 17 (l0.length - 4) (by omega) (by omega) hc0
  have q5' : ∀ W : World, (Instr.slice 22 (.slice A0 l0.length c0) (some (.int .i64 17)) (some (.int .i64 ((l0.length : Int) - 4))) none).run Try.prog W = .ok (.slice A5 (mid l0 17 (l0.length - 4)).length (c0 - 17)) W := by
    intro W; have := q5 W; rwa [show ((l0.length - 4 : Nat) : Int) = (l0.length : Int) - 4 by omega] at this
  have HC1 := Aside0.mk (p1 w hr0)
  have HC5 := Aside0.mk (p5 w hr0)
  have HL5 := Aside0.mk g5
  have HG1 := Aside0.mk (fun W h => scullerref01_Get.calls kk A1 (c0 - 1) (mid l0 1 9) v1 W h g1 e1)
  have HG2 := Aside0.mk (fun W h => scullerref13_get.calls kk A0 c0 l0 9 2 v2 W h hc0 e2)
  have HG3 := Aside0.mk (fun W h => scullerref13_get.calls kk A0 c0 l0 11 2 v3 W h hc0 e3)
  have HG4 := Aside0.mk (fun W h => scullerref13_get.calls kk A0 c0 l0 13 4 v4 W h hc0 e4)
  have q1' : ∀ W : World, (Instr.slice 22 (.slice A0 l0.length c0) (some (.int .i64 1)) (some (.int .i64 9)) none).run Try.prog W = .ok (.slice A1 (mid l0 1 9).length (c0 - 1)) W := q1
  clear e1 e2 e3 e4 q1 q5 p1 p5 g1 g5 h hr0
  have H21 := Aside0.mk h21
  have h17 : ((l0.length : Int) < 17) = False := eq_false (by omega)
  clear h21
  subst e0
  have h0l : 0 < l0.length := by have := H21.out; omega
  rw [show ad0.add (0 : Int).toNat = ad0 by simp [Addr.add], e6] at hcell0
  have H0 := Aside0.mk hcell0
  clear hcell0 e6
  have HCE := Aside0.mk hce
  have HQ := Aside0.mk hq
  have HRES := Aside0.mk hres
  have HE1 := Aside0.mk hkd
  have HE4 := Aside0.mk hvy
  clear hce hq hres hkd hvy
  go_enter Try.func89, Try.ntmps89
  go_wp2_with fail
  refine (HC _ (Kd.C_alloc HR.out _)).mono ?_
  rintro e w1 ⟨rfl, hb⟩
  have HK := Aside0.mk (blk_below (blk_new w (.cells #[.int .i64 0, .int .u64 0, .int .i64 0, .int .i64 0, .int .u32 0, .slice none 0 0, .slice none 0 0] 56)) hb)
  have HB := Aside0.mk (below_step (below_alloc (Below.refl w.heap.size w) _) hb)
  clear hb HC
  go_wp2_with fail
  have n0_ := Aside0.mk (blk_drew HK.out)
  have n1_ := Aside0.mk (below_drew1 HB.out)
  clear HK HB
  have HK := n0_
  have HB := n1_
  clear n0_ n1_
  refine start_ (n := 17) (S := fun w' => w'.cell? ad0 = some (.int .u8 b0)) (ds := []) #[false, false, false, false, false, false, false, false, false, false, false, false, false, false, false, false, false] (by kernel_rfl) rfl rfl (((HB.out.cell (World.block_lt_of_cell? _ _ H0.out)).trans H0.out)) (fun hHeld => ?_)
  generalize w1.drew = W1 at HK HB hHeld ⊢
  refine pure_ (i := 0) (N := some 17) (v := ?_) (a' := ?_) #[true, false, false, false, false, false, false, false, false, false, false, false, false, false, false, false, false] rfl rfl (by kernel_rfl) (fun _ _ _ h => h) (Or.inl ⟨by rfl, ?_⟩) ?_ ?_
  rotate_left
  · intro w'
    go_simp
    with_reducible rfl
  rotate_left
  · simp only [Act.put, List.setIfInBounds_toArray, List.set_cons_zero, List.set_cons_succ, i64_w, i32_w]
    rfl
  refine pure_ (i := 1) (N := some 18) (v := ?_) (a' := ?_) #[true, true, false, false, false, false, false, false, false, false, false, false, false, false, false, false, false] rfl rfl (by kernel_rfl) (fun _ _ _ h => h) (Or.inl ⟨by rfl, ?_⟩) ?_ ?_
  rotate_left
  · intro w'
    go_simp
    with_reducible rfl
  rotate_left
  · simp only [Act.put, List.setIfInBounds_toArray, List.set_cons_zero, List.set_cons_succ, i64_w, i32_w]
    rfl
  refine pure_ (i := 4) (N := some 21) (v := ?_) (a' := ?_) #[true, true, false, false, true, false, false, false, false, false, false, false, false, false, false, false, false] rfl rfl (by kernel_rfl) (fun _ _ _ h => h) (Or.inl ⟨by rfl, ?_⟩) ?_ ?_
  rotate_left
  · intro w'
    go_simp
    with_reducible rfl
  rotate_left
  · simp only [Act.put, List.setIfInBounds_toArray, List.set_cons_zero, List.set_cons_succ, i64_w, i32_w]
    rfl
  refine pure_ (i := 5) (N := some 22) (v := ?_) (a' := ?_) #[true, true, false, false, true, true, false, false, false, false, false, false, false, false, false, false, false] rfl rfl (by kernel_rfl) (fun _ _ _ h => h) (Or.inl ⟨by rfl, ?_⟩) ?_ ?_
  rotate_left
  · intro w'
    go_simp
    with_reducible rfl
  rotate_left
  · simp only [Act.put, List.setIfInBounds_toArray, List.set_cons_zero, List.set_cons_succ, i64_w, i32_w]
    rfl
  refine pure_ (i := 7) (N := some 24) (v := ?_) (a' := ?_) #[true, true, false, false, true, true, false, true, false, false, false, false, false, false, false, false, false] rfl rfl (by kernel_rfl) (fun _ _ _ h => h) (Or.inl ⟨by rfl, ?_⟩) ?_ ?_
  rotate_left
  · intro w'
    go_simp
    with_reducible rfl
  rotate_left
  · simp only [Act.put, List.setIfInBounds_toArray, List.set_cons_zero, List.set_cons_succ, i64_w, i32_w]
    rfl
  refine pure_ (i := 9) (N := some 26) (v := ?_) (a' := ?_) #[true, true, false, false, true, true, false, true, false, true, false, false, false, false, false, false, false] rfl rfl (by kernel_rfl) (fun _ _ _ h => h) (Or.inl ⟨by rfl, ?_⟩) ?_ ?_
  rotate_left
  · intro w'
    go_simp
    with_reducible rfl
  rotate_left
  · simp only [Act.put, List.setIfInBounds_toArray, List.set_cons_zero, List.set_cons_succ, i64_w, i32_w]
    rfl
  refine pure_ (i := 11) (N := some 28) (v := ?_) (a' := ?_) #[true, true, false, false, true, true, false, true, false, true, false, true, false, false, false, false, false] rfl rfl (by kernel_rfl) (fun _ _ _ h => h) (Or.inl ⟨by rfl, ?_⟩) ?_ ?_
  rotate_left
  · intro w'
    go_simp
    with_reducible rfl
  rotate_left
  · simp only [Act.put, List.setIfInBounds_toArray, List.set_cons_zero, List.set_cons_succ, i64_w, i32_w]
    rfl
  refine take_ (i := 2) (N := some 19) (v := ?_) (a' := ?_) #[true, true, true, false, true, true, false, true, false, true, false, true, false, false, false, false, false] rfl rfl (by kernel_rfl) (fun _ _ _ h => h) (Or.inl ⟨by rfl, ?_⟩) hHeld ?_ ?_
  rotate_left
  · intro w' s0
    go_simp
    with_reducible rfl
  rotate_left
  · simp only [Act.put, List.setIfInBounds_toArray, List.set_cons_zero, List.set_cons_succ, i64_w, i32_w]
    rfl
  refine pure_ (i := 3) (N := some 20) (v := ?_) (a' := ?_) #[true, true, true, true, true, true, false, true, false, true, false, true, false, false, false, false, false] rfl rfl (by kernel_rfl) (fun _ _ _ h => h) (Or.inl ⟨by rfl, ?_⟩) ?_ ?_
  rotate_left
  · intro w'
    go_simp
    with_reducible rfl
  rotate_left
  · simp only [Act.put, List.setIfInBounds_toArray, List.set_cons_zero, List.set_cons_succ, i64_w, i32_w]
    rfl
  refine join_ (σ := Nat) 1 #[true, true, true, true, true, true, true, true, true, true, true, true, true, true, true, true, false] (fun s => [(23, .int .u64 v1), (25, .int .i64 v2), (27, .int .i64 v3), (29, .int .i64 v4), (30, .int .u32 (IntKind.u32.wrap v4)), (31, .agg #[.int .i64 (wrap64 b0), .int .u64 v1, .int .i64 v2, .int .i64 v3, .int .u32 (IntKind.u32.wrap v4), .slice none 0 0, .slice none 0 0]), (4, .pointer (some ⟨s, 0, none⟩))]) (fun s w' => w'.heap[w.heap.size]? = some (.cells #[.int .i64 0, .int .u64 0, .int .i64 0, .int .i64 0, .int .u32 0, .slice none 0 0, .slice none 0 0] 56 (0, 0)) ∧ w'.heap[s]? = some (.cells #[.int .i64 0, .int .u64 0, .int .i64 0, .int .i64 0, .int .u32 0, .slice none 0 0, .slice none 0 0] 56 (0, 0)) ∧ Below w.heap.size w w' ∧ w.heap.size < s) ?_ ?_
  rotate_left
  · intro hCont
    refine two_ (i := 6) (j := 15) (Ni := some 23) (Nj := some 4) #[true, true, true, true, true, true, true, true, false, true, false, true, false, false, false, false, false] #[true, true, true, true, true, true, false, true, false, true, false, true, false, false, false, true, false] rfl rfl rfl rfl (by kernel_rfl) (by decide) (by decide) (fun K hK => ?_) (fun K hK => ?_)
    · skip
      refine goes_ Try.func132 (by kernel_rfl) rfl #[.slice A1 (mid l0 1 9).length (c0 - 1)] (by rfl) rfl rfl (by first | (simp only [List.map_toArray, List.map_cons, List.map_nil]; done) | (simp only [List.map_toArray, List.map_cons, List.map_nil]; rfl)) ?_
      with_reducible refine (HG1.out _ (Kd.C_below HC1.out HB.out)).mono ?_
      rintro e wc1 ⟨rfl, hb⟩
      refine ⟨_, rfl, ?_⟩
      have n0_ := Aside0.mk (blk_below HK.out hb)
      have n1_ := Aside0.mk (below_step HB.out hb)
      clear HK HB hb
      have HK := n0_
      have HB := n1_
      clear n0_ n1_
      refine hK.out _ _ (((HB.out.cell (World.block_lt_of_cell? _ _ H0.out)).trans H0.out)) (fun hHeld => ?_)
      clear hK K
      refine norm_ (a' := ?_) ?_ ?_
      rotate_left
      · show Act.put _ (some 23) _ = _
        simp only [Act.put, List.setIfInBounds_toArray, List.set_cons_zero, List.set_cons_succ, i64_w, i32_w]
        rfl
      refine two_ (i := 8) (j := 15) (Ni := some 25) (Nj := some 4) #[true, true, true, true, true, true, true, true, true, true, false, true, false, false, false, false, false] #[true, true, true, true, true, true, true, true, false, true, false, true, false, false, false, true, false] rfl rfl rfl rfl (by kernel_rfl) (by decide) (by decide) (fun K hK => ?_) (fun K hK => ?_)
      · skip
        refine goes_ Try.func133 (by kernel_rfl) rfl #[.slice (some ad0) l0.length c0, .int .i64 9, .int .i64 2] (by rfl) rfl rfl (by first | (simp only [List.map_toArray, List.map_cons, List.map_nil]; done) | (simp only [List.map_toArray, List.map_cons, List.map_nil]; rfl)) ?_
        with_reducible refine (HG2.out _ (Kd.C_below HR.out HB.out)).mono ?_
        rintro e wc2 ⟨rfl, hb⟩
        refine ⟨_, rfl, ?_⟩
        have n0_ := Aside0.mk (blk_below HK.out hb)
        have n1_ := Aside0.mk (below_step HB.out hb)
        clear HK HB hb
        have HK := n0_
        have HB := n1_
        clear n0_ n1_
        refine hK.out _ _ (((HB.out.cell (World.block_lt_of_cell? _ _ H0.out)).trans H0.out)) (fun hHeld => ?_)
        clear hK K
        refine norm_ (a' := ?_) ?_ ?_
        rotate_left
        · show Act.put _ (some 25) _ = _
          simp only [Act.put, List.setIfInBounds_toArray, List.set_cons_zero, List.set_cons_succ, i64_w, i32_w]
          rfl
        refine two_ (i := 10) (j := 15) (Ni := some 27) (Nj := some 4) #[true, true, true, true, true, true, true, true, true, true, true, true, false, false, false, false, false] #[true, true, true, true, true, true, true, true, true, true, false, true, false, false, false, true, false] rfl rfl rfl rfl (by kernel_rfl) (by decide) (by decide) (fun K hK => ?_) (fun K hK => ?_)
        · skip
          refine goes_ Try.func133 (by kernel_rfl) rfl #[.slice (some ad0) l0.length c0, .int .i64 11, .int .i64 2] (by rfl) rfl rfl (by first | (simp only [List.map_toArray, List.map_cons, List.map_nil]; done) | (simp only [List.map_toArray, List.map_cons, List.map_nil]; rfl)) ?_
          with_reducible refine (HG3.out _ (Kd.C_below HR.out HB.out)).mono ?_
          rintro e wc3 ⟨rfl, hb⟩
          refine ⟨_, rfl, ?_⟩
          have n0_ := Aside0.mk (blk_below HK.out hb)
          have n1_ := Aside0.mk (below_step HB.out hb)
          clear HK HB hb
          have HK := n0_
          have HB := n1_
          clear n0_ n1_
          refine hK.out _ _ (((HB.out.cell (World.block_lt_of_cell? _ _ H0.out)).trans H0.out)) (fun hHeld => ?_)
          clear hK K
          refine norm_ (a' := ?_) ?_ ?_
          rotate_left
          · show Act.put _ (some 27) _ = _
            simp only [Act.put, List.setIfInBounds_toArray, List.set_cons_zero, List.set_cons_succ, i64_w, i32_w]
            rfl
          refine two_ (i := 12) (j := 15) (Ni := some 29) (Nj := some 4) #[true, true, true, true, true, true, true, true, true, true, true, true, true, false, false, false, false] #[true, true, true, true, true, true, true, true, true, true, true, true, false, false, false, true, false] rfl rfl rfl rfl (by kernel_rfl) (by decide) (by decide) (fun K hK => ?_) (fun K hK => ?_)
          · skip
            refine goes_ Try.func133 (by kernel_rfl) rfl #[.slice (some ad0) l0.length c0, .int .i64 13, .int .i64 4] (by rfl) rfl rfl (by first | (simp only [List.map_toArray, List.map_cons, List.map_nil]; done) | (simp only [List.map_toArray, List.map_cons, List.map_nil]; rfl)) ?_
            with_reducible refine (HG4.out _ (Kd.C_below HR.out HB.out)).mono ?_
            rintro e wc4 ⟨rfl, hb⟩
            refine ⟨_, rfl, ?_⟩
            have n0_ := Aside0.mk (blk_below HK.out hb)
            have n1_ := Aside0.mk (below_step HB.out hb)
            clear HK HB hb
            have HK := n0_
            have HB := n1_
            clear n0_ n1_
            refine hK.out _ _ (((HB.out.cell (World.block_lt_of_cell? _ _ H0.out)).trans H0.out)) (fun hHeld => ?_)
            clear hK K
            refine norm_ (a' := ?_) ?_ ?_
            rotate_left
            · show Act.put _ (some 29) _ = _
              simp only [Act.put, List.setIfInBounds_toArray, List.set_cons_zero, List.set_cons_succ, i64_w, i32_w]
              rfl
            refine pure_ (i := 13) (N := some 30) (v := ?_) (a' := ?_) #[true, true, true, true, true, true, true, true, true, true, true, true, true, true, false, false, false] rfl rfl (by kernel_rfl) (fun _ _ _ h => h) (Or.inl ⟨by rfl, ?_⟩) ?_ ?_
            rotate_left
            · intro w'
              go_simp
              with_reducible rfl
            rotate_left
            · simp only [Act.put, List.setIfInBounds_toArray, List.set_cons_zero, List.set_cons_succ, i64_w, i32_w]
              rfl
            refine pure_ (i := 14) (N := some 31) (v := ?_) (a' := ?_) #[true, true, true, true, true, true, true, true, true, true, true, true, true, true, true, false, false] rfl rfl (by kernel_rfl) (fun _ _ _ h => h) (Or.inl ⟨by rfl, ?_⟩) ?_ ?_
            rotate_left
            · intro w'
              go_simp
              with_reducible rfl
            rotate_left
            · simp only [Act.put, List.setIfInBounds_toArray, List.set_cons_zero, List.set_cons_succ, i64_w, i32_w]
              rfl
            refine one_ (i := 15) (N := some 4) #[true, true, true, true, true, true, true, true, true, true, true, true, true, true, true, true, false] rfl rfl (by kernel_rfl) (by decide) (fun K hK => ?_)
            have HL := Aside0.mk (blk_lt HK.out)
            refine value_ (w1 := ?_) (v := ?_) (by rfl) rfl ?_ ?_
            rotate_left 2
            · go_simp
              constructor
              · rfl
              · rfl
            have HT := Aside0.mk (blk_new _ (.cells #[.int .i64 0, .int .u64 0, .int .i64 0, .int .i64 0, .int .u32 0, .slice none 0 0, .slice none 0 0] 56) : (wc4.alloc (.cells #[.int .i64 0, .int .u64 0, .int .i64 0, .int .i64 0, .int .u32 0, .slice none 0 0, .slice none 0 0] 56)).heap[wc4.heap.size]? = _)
            have n0_ := Aside0.mk (blk_alloc HK.out (.cells #[.int .i64 0, .int .u64 0, .int .i64 0, .int .i64 0, .int .u32 0, .slice none 0 0, .slice none 0 0] 56))
            have n1_ := Aside0.mk (below_alloc HB.out (.cells #[.int .i64 0, .int .u64 0, .int .i64 0, .int .i64 0, .int .u32 0, .slice none 0 0, .slice none 0 0] 56))
            clear HK HB
            have HK := n0_
            have HB := n1_
            clear n0_ n1_
            refine hK.out _ _ (((HB.out.cell (World.block_lt_of_cell? _ _ H0.out)).trans H0.out)) (fun hHeld => ?_)
            clear hK K
            refine norm_ (a' := ?_) ?_ ?_
            rotate_left
            · show Act.put _ (some 4) _ = _
              simp only [Act.put, List.setIfInBounds_toArray, List.set_cons_zero, List.set_cons_succ, i64_w, i32_w]
              rfl
            exact norm_ (by simp only [putAll, Act.put, List.setIfInBounds_toArray, List.set_cons_zero, List.set_cons_succ]) (hCont wc4.heap.size _ ⟨HK.out, HT.out, HB.out, HL.out⟩)
          · skip
            have HL := Aside0.mk (blk_lt HK.out)
            refine value_ (w1 := ?_) (v := ?_) (by rfl) rfl ?_ ?_
            rotate_left 2
            · go_simp
              constructor
              · rfl
              · rfl
            have HT := Aside0.mk (blk_new _ (.cells #[.int .i64 0, .int .u64 0, .int .i64 0, .int .i64 0, .int .u32 0, .slice none 0 0, .slice none 0 0] 56) : (wc3.alloc (.cells #[.int .i64 0, .int .u64 0, .int .i64 0, .int .i64 0, .int .u32 0, .slice none 0 0, .slice none 0 0] 56)).heap[wc3.heap.size]? = _)
            have n0_ := Aside0.mk (blk_alloc HK.out (.cells #[.int .i64 0, .int .u64 0, .int .i64 0, .int .i64 0, .int .u32 0, .slice none 0 0, .slice none 0 0] 56))
            have n1_ := Aside0.mk (below_alloc HB.out (.cells #[.int .i64 0, .int .u64 0, .int .i64 0, .int .i64 0, .int .u32 0, .slice none 0 0, .slice none 0 0] 56))
            clear HK HB
            have HK := n0_
            have HB := n1_
            clear n0_ n1_
            refine hK.out _ _ (((HB.out.cell (World.block_lt_of_cell? _ _ H0.out)).trans H0.out)) (fun hHeld => ?_)
            clear hK K
            refine norm_ (a' := ?_) ?_ ?_
            rotate_left
            · show Act.put _ (some 4) _ = _
              simp only [Act.put, List.setIfInBounds_toArray, List.set_cons_zero, List.set_cons_succ, i64_w, i32_w]
              rfl
            refine one_ (i := 12) (N := some 29) #[true, true, true, true, true, true, true, true, true, true, true, true, true, false, false, true, false] rfl rfl (by kernel_rfl) (by decide) (fun K hK => ?_)
            refine goes_ Try.func133 (by kernel_rfl) rfl #[.slice (some ad0) l0.length c0, .int .i64 13, .int .i64 4] (by rfl) rfl rfl (by first | (simp only [List.map_toArray, List.map_cons, List.map_nil]; done) | (simp only [List.map_toArray, List.map_cons, List.map_nil]; rfl)) ?_
            with_reducible refine (HG4.out _ (Kd.C_below HR.out HB.out)).mono ?_
            rintro e wc4 ⟨rfl, hb⟩
            refine ⟨_, rfl, ?_⟩
            have n0_ := Aside0.mk (blk_below HK.out hb)
            have n1_ := Aside0.mk (below_step HB.out hb)
            have n2_ := Aside0.mk (blk_below HT.out hb)
            clear HK HB HT hb
            have HK := n0_
            have HB := n1_
            have HT := n2_
            clear n2_
            clear n0_ n1_
            refine hK.out _ _ (((HB.out.cell (World.block_lt_of_cell? _ _ H0.out)).trans H0.out)) (fun hHeld => ?_)
            clear hK K
            refine norm_ (a' := ?_) ?_ ?_
            rotate_left
            · show Act.put _ (some 29) _ = _
              simp only [Act.put, List.setIfInBounds_toArray, List.set_cons_zero, List.set_cons_succ, i64_w, i32_w]
              rfl
            refine pure_ (i := 13) (N := some 30) (v := ?_) (a' := ?_) #[true, true, true, true, true, true, true, true, true, true, true, true, true, true, false, true, false] rfl rfl (by kernel_rfl) (fun _ _ _ h => h) (Or.inl ⟨by rfl, ?_⟩) ?_ ?_
            rotate_left
            · intro w'
              go_simp
              with_reducible rfl
            rotate_left
            · simp only [Act.put, List.setIfInBounds_toArray, List.set_cons_zero, List.set_cons_succ, i64_w, i32_w]
              rfl
            refine pure_ (i := 14) (N := some 31) (v := ?_) (a' := ?_) #[true, true, true, true, true, true, true, true, true, true, true, true, true, true, true, true, false] rfl rfl (by kernel_rfl) (fun _ _ _ h => h) (Or.inl ⟨by rfl, ?_⟩) ?_ ?_
            rotate_left
            · intro w'
              go_simp
              with_reducible rfl
            rotate_left
            · simp only [Act.put, List.setIfInBounds_toArray, List.set_cons_zero, List.set_cons_succ, i64_w, i32_w]
              rfl
            exact norm_ (by simp only [putAll, Act.put, List.setIfInBounds_toArray, List.set_cons_zero, List.set_cons_succ]) (hCont wc3.heap.size _ ⟨HK.out, HT.out, HB.out, HL.out⟩)
        · skip
          have HL := Aside0.mk (blk_lt HK.out)
          refine value_ (w1 := ?_) (v := ?_) (by rfl) rfl ?_ ?_
          rotate_left 2
          · go_simp
            constructor
            · rfl
            · rfl
          have HT := Aside0.mk (blk_new _ (.cells #[.int .i64 0, .int .u64 0, .int .i64 0, .int .i64 0, .int .u32 0, .slice none 0 0, .slice none 0 0] 56) : (wc2.alloc (.cells #[.int .i64 0, .int .u64 0, .int .i64 0, .int .i64 0, .int .u32 0, .slice none 0 0, .slice none 0 0] 56)).heap[wc2.heap.size]? = _)
          have n0_ := Aside0.mk (blk_alloc HK.out (.cells #[.int .i64 0, .int .u64 0, .int .i64 0, .int .i64 0, .int .u32 0, .slice none 0 0, .slice none 0 0] 56))
          have n1_ := Aside0.mk (below_alloc HB.out (.cells #[.int .i64 0, .int .u64 0, .int .i64 0, .int .i64 0, .int .u32 0, .slice none 0 0, .slice none 0 0] 56))
          clear HK HB
          have HK := n0_
          have HB := n1_
          clear n0_ n1_
          refine hK.out _ _ (((HB.out.cell (World.block_lt_of_cell? _ _ H0.out)).trans H0.out)) (fun hHeld => ?_)
          clear hK K
          refine norm_ (a' := ?_) ?_ ?_
          rotate_left
          · show Act.put _ (some 4) _ = _
            simp only [Act.put, List.setIfInBounds_toArray, List.set_cons_zero, List.set_cons_succ, i64_w, i32_w]
            rfl
          refine one_ (i := 10) (N := some 27) #[true, true, true, true, true, true, true, true, true, true, true, true, false, false, false, true, false] rfl rfl (by kernel_rfl) (by decide) (fun K hK => ?_)
          refine goes_ Try.func133 (by kernel_rfl) rfl #[.slice (some ad0) l0.length c0, .int .i64 11, .int .i64 2] (by rfl) rfl rfl (by first | (simp only [List.map_toArray, List.map_cons, List.map_nil]; done) | (simp only [List.map_toArray, List.map_cons, List.map_nil]; rfl)) ?_
          with_reducible refine (HG3.out _ (Kd.C_below HR.out HB.out)).mono ?_
          rintro e wc3 ⟨rfl, hb⟩
          refine ⟨_, rfl, ?_⟩
          have n0_ := Aside0.mk (blk_below HK.out hb)
          have n1_ := Aside0.mk (below_step HB.out hb)
          have n2_ := Aside0.mk (blk_below HT.out hb)
          clear HK HB HT hb
          have HK := n0_
          have HB := n1_
          have HT := n2_
          clear n2_
          clear n0_ n1_
          refine hK.out _ _ (((HB.out.cell (World.block_lt_of_cell? _ _ H0.out)).trans H0.out)) (fun hHeld => ?_)
          clear hK K
          refine norm_ (a' := ?_) ?_ ?_
          rotate_left
          · show Act.put _ (some 27) _ = _
            simp only [Act.put, List.setIfInBounds_toArray, List.set_cons_zero, List.set_cons_succ, i64_w, i32_w]
            rfl
          refine one_ (i := 12) (N := some 29) #[true, true, true, true, true, true, true, true, true, true, true, true, true, false, false, true, false] rfl rfl (by kernel_rfl) (by decide) (fun K hK => ?_)
          refine goes_ Try.func133 (by kernel_rfl) rfl #[.slice (some ad0) l0.length c0, .int .i64 13, .int .i64 4] (by rfl) rfl rfl (by first | (simp only [List.map_toArray, List.map_cons, List.map_nil]; done) | (simp only [List.map_toArray, List.map_cons, List.map_nil]; rfl)) ?_
          with_reducible refine (HG4.out _ (Kd.C_below HR.out HB.out)).mono ?_
          rintro e wc4 ⟨rfl, hb⟩
          refine ⟨_, rfl, ?_⟩
          have n0_ := Aside0.mk (blk_below HK.out hb)
          have n1_ := Aside0.mk (below_step HB.out hb)
          have n2_ := Aside0.mk (blk_below HT.out hb)
          clear HK HB HT hb
          have HK := n0_
          have HB := n1_
          have HT := n2_
          clear n2_
          clear n0_ n1_
          refine hK.out _ _ (((HB.out.cell (World.block_lt_of_cell? _ _ H0.out)).trans H0.out)) (fun hHeld => ?_)
          clear hK K
          refine norm_ (a' := ?_) ?_ ?_
          rotate_left
          · show Act.put _ (some 29) _ = _
            simp only [Act.put, List.setIfInBounds_toArray, List.set_cons_zero, List.set_cons_succ, i64_w, i32_w]
            rfl
          refine pure_ (i := 13) (N := some 30) (v := ?_) (a' := ?_) #[true, true, true, true, true, true, true, true, true, true, true, true, true, true, false, true, false] rfl rfl (by kernel_rfl) (fun _ _ _ h => h) (Or.inl ⟨by rfl, ?_⟩) ?_ ?_
          rotate_left
          · intro w'
            go_simp
            with_reducible rfl
          rotate_left
          · simp only [Act.put, List.setIfInBounds_toArray, List.set_cons_zero, List.set_cons_succ, i64_w, i32_w]
            rfl
          refine pure_ (i := 14) (N := some 31) (v := ?_) (a' := ?_) #[true, true, true, true, true, true, true, true, true, true, true, true, true, true, true, true, false] rfl rfl (by kernel_rfl) (fun _ _ _ h => h) (Or.inl ⟨by rfl, ?_⟩) ?_ ?_
          rotate_left
          · intro w'
            go_simp
            with_reducible rfl
          rotate_left
          · simp only [Act.put, List.setIfInBounds_toArray, List.set_cons_zero, List.set_cons_succ, i64_w, i32_w]
            rfl
          exact norm_ (by simp only [putAll, Act.put, List.setIfInBounds_toArray, List.set_cons_zero, List.set_cons_succ]) (hCont wc2.heap.size _ ⟨HK.out, HT.out, HB.out, HL.out⟩)
      · skip
        have HL := Aside0.mk (blk_lt HK.out)
        refine value_ (w1 := ?_) (v := ?_) (by rfl) rfl ?_ ?_
        rotate_left 2
        · go_simp
          constructor
          · rfl
          · rfl
        have HT := Aside0.mk (blk_new _ (.cells #[.int .i64 0, .int .u64 0, .int .i64 0, .int .i64 0, .int .u32 0, .slice none 0 0, .slice none 0 0] 56) : (wc1.alloc (.cells #[.int .i64 0, .int .u64 0, .int .i64 0, .int .i64 0, .int .u32 0, .slice none 0 0, .slice none 0 0] 56)).heap[wc1.heap.size]? = _)
        have n0_ := Aside0.mk (blk_alloc HK.out (.cells #[.int .i64 0, .int .u64 0, .int .i64 0, .int .i64 0, .int .u32 0, .slice none 0 0, .slice none 0 0] 56))
        have n1_ := Aside0.mk (below_alloc HB.out (.cells #[.int .i64 0, .int .u64 0, .int .i64 0, .int .i64 0, .int .u32 0, .slice none 0 0, .slice none 0 0] 56))
        clear HK HB
        have HK := n0_
        have HB := n1_
        clear n0_ n1_
        refine hK.out _ _ (((HB.out.cell (World.block_lt_of_cell? _ _ H0.out)).trans H0.out)) (fun hHeld => ?_)
        clear hK K
        refine norm_ (a' := ?_) ?_ ?_
        rotate_left
        · show Act.put _ (some 4) _ = _
          simp only [Act.put, List.setIfInBounds_toArray, List.set_cons_zero, List.set_cons_succ, i64_w, i32_w]
          rfl
        refine one_ (i := 8) (N := some 25) #[true, true, true, true, true, true, true, true, true, true, false, true, false, false, false, true, false] rfl rfl (by kernel_rfl) (by decide) (fun K hK => ?_)
        refine goes_ Try.func133 (by kernel_rfl) rfl #[.slice (some ad0) l0.length c0, .int .i64 9, .int .i64 2] (by rfl) rfl rfl (by first | (simp only [List.map_toArray, List.map_cons, List.map_nil]; done) | (simp only [List.map_toArray, List.map_cons, List.map_nil]; rfl)) ?_
        with_reducible refine (HG2.out _ (Kd.C_below HR.out HB.out)).mono ?_
        rintro e wc2 ⟨rfl, hb⟩
        refine ⟨_, rfl, ?_⟩
        have n0_ := Aside0.mk (blk_below HK.out hb)
        have n1_ := Aside0.mk (below_step HB.out hb)
        have n2_ := Aside0.mk (blk_below HT.out hb)
        clear HK HB HT hb
        have HK := n0_
        have HB := n1_
        have HT := n2_
        clear n2_
        clear n0_ n1_
        refine hK.out _ _ (((HB.out.cell (World.block_lt_of_cell? _ _ H0.out)).trans H0.out)) (fun hHeld => ?_)
        clear hK K
        refine norm_ (a' := ?_) ?_ ?_
        rotate_left
        · show Act.put _ (some 25) _ = _
          simp only [Act.put, List.setIfInBounds_toArray, List.set_cons_zero, List.set_cons_succ, i64_w, i32_w]
          rfl
        refine one_ (i := 10) (N := some 27) #[true, true, true, true, true, true, true, true, true, true, true, true, false, false, false, true, false] rfl rfl (by kernel_rfl) (by decide) (fun K hK => ?_)
        refine goes_ Try.func133 (by kernel_rfl) rfl #[.slice (some ad0) l0.length c0, .int .i64 11, .int .i64 2] (by rfl) rfl rfl (by first | (simp only [List.map_toArray, List.map_cons, List.map_nil]; done) | (simp only [List.map_toArray, List.map_cons, List.map_nil]; rfl)) ?_
        with_reducible refine (HG3.out _ (Kd.C_below HR.out HB.out)).mono ?_
        rintro e wc3 ⟨rfl, hb⟩
        refine ⟨_, rfl, ?_⟩
        have n0_ := Aside0.mk (blk_below HK.out hb)
        have n1_ := Aside0.mk (below_step HB.out hb)
        have n2_ := Aside0.mk (blk_below HT.out hb)
        clear HK HB HT hb
        have HK := n0_
        have HB := n1_
        have HT := n2_
        clear n2_
        clear n0_ n1_
        refine hK.out _ _ (((HB.out.cell (World.block_lt_of_cell? _ _ H0.out)).trans H0.out)) (fun hHeld => ?_)
        clear hK K
        refine norm_ (a' := ?_) ?_ ?_
        rotate_left
        · show Act.put _ (some 27) _ = _
          simp only [Act.put, List.setIfInBounds_toArray, List.set_cons_zero, List.set_cons_succ, i64_w, i32_w]
          rfl
        refine one_ (i := 12) (N := some 29) #[true, true, true, true, true, true, true, true, true, true, true, true, true, false, false, true, false] rfl rfl (by kernel_rfl) (by decide) (fun K hK => ?_)
        refine goes_ Try.func133 (by kernel_rfl) rfl #[.slice (some ad0) l0.length c0, .int .i64 13, .int .i64 4] (by rfl) rfl rfl (by first | (simp only [List.map_toArray, List.map_cons, List.map_nil]; done) | (simp only [List.map_toArray, List.map_cons, List.map_nil]; rfl)) ?_
        with_reducible refine (HG4.out _ (Kd.C_below HR.out HB.out)).mono ?_
        rintro e wc4 ⟨rfl, hb⟩
        refine ⟨_, rfl, ?_⟩
        have n0_ := Aside0.mk (blk_below HK.out hb)
        have n1_ := Aside0.mk (below_step HB.out hb)
        have n2_ := Aside0.mk (blk_below HT.out hb)
        clear HK HB HT hb
        have HK := n0_
        have HB := n1_
        have HT := n2_
        clear n2_
        clear n0_ n1_
        refine hK.out _ _ (((HB.out.cell (World.block_lt_of_cell? _ _ H0.out)).trans H0.out)) (fun hHeld => ?_)
        clear hK K
        refine norm_ (a' := ?_) ?_ ?_
        rotate_left
        · show Act.put _ (some 29) _ = _
          simp only [Act.put, List.setIfInBounds_toArray, List.set_cons_zero, List.set_cons_succ, i64_w, i32_w]
          rfl
        refine pure_ (i := 13) (N := some 30) (v := ?_) (a' := ?_) #[true, true, true, true, true, true, true, true, true, true, true, true, true, true, false, true, false] rfl rfl (by kernel_rfl) (fun _ _ _ h => h) (Or.inl ⟨by rfl, ?_⟩) ?_ ?_
        rotate_left
        · intro w'
          go_simp
          with_reducible rfl
        rotate_left
        · simp only [Act.put, List.setIfInBounds_toArray, List.set_cons_zero, List.set_cons_succ, i64_w, i32_w]
          rfl
        refine pure_ (i := 14) (N := some 31) (v := ?_) (a' := ?_) #[true, true, true, true, true, true, true, true, true, true, true, true, true, true, true, true, false] rfl rfl (by kernel_rfl) (fun _ _ _ h => h) (Or.inl ⟨by rfl, ?_⟩) ?_ ?_
        rotate_left
        · intro w'
          go_simp
          with_reducible rfl
        rotate_left
        · simp only [Act.put, List.setIfInBounds_toArray, List.set_cons_zero, List.set_cons_succ, i64_w, i32_w]
          rfl
        exact norm_ (by simp only [putAll, Act.put, List.setIfInBounds_toArray, List.set_cons_zero, List.set_cons_succ]) (hCont wc1.heap.size _ ⟨HK.out, HT.out, HB.out, HL.out⟩)
    · skip
      have HL := Aside0.mk (blk_lt HK.out)
      refine value_ (w1 := ?_) (v := ?_) (by rfl) rfl ?_ ?_
      rotate_left 2
      · go_simp
        constructor
        · rfl
        · rfl
      have HT := Aside0.mk (blk_new _ (.cells #[.int .i64 0, .int .u64 0, .int .i64 0, .int .i64 0, .int .u32 0, .slice none 0 0, .slice none 0 0] 56) : (W1.alloc (.cells #[.int .i64 0, .int .u64 0, .int .i64 0, .int .i64 0, .int .u32 0, .slice none 0 0, .slice none 0 0] 56)).heap[W1.heap.size]? = _)
      have n0_ := Aside0.mk (blk_alloc HK.out (.cells #[.int .i64 0, .int .u64 0, .int .i64 0, .int .i64 0, .int .u32 0, .slice none 0 0, .slice none 0 0] 56))
      have n1_ := Aside0.mk (below_alloc HB.out (.cells #[.int .i64 0, .int .u64 0, .int .i64 0, .int .i64 0, .int .u32 0, .slice none 0 0, .slice none 0 0] 56))
      clear HK HB
      have HK := n0_
      have HB := n1_
      clear n0_ n1_
      refine hK.out _ _ (((HB.out.cell (World.block_lt_of_cell? _ _ H0.out)).trans H0.out)) (fun hHeld => ?_)
      clear hK K
      refine norm_ (a' := ?_) ?_ ?_
      rotate_left
      · show Act.put _ (some 4) _ = _
        simp only [Act.put, List.setIfInBounds_toArray, List.set_cons_zero, List.set_cons_succ, i64_w, i32_w]
        rfl
      refine one_ (i := 6) (N := some 23) #[true, true, true, true, true, true, true, true, false, true, false, true, false, false, false, true, false] rfl rfl (by kernel_rfl) (by decide) (fun K hK => ?_)
      refine goes_ Try.func132 (by kernel_rfl) rfl #[.slice A1 (mid l0 1 9).length (c0 - 1)] (by rfl) rfl rfl (by first | (simp only [List.map_toArray, List.map_cons, List.map_nil]; done) | (simp only [List.map_toArray, List.map_cons, List.map_nil]; rfl)) ?_
      with_reducible refine (HG1.out _ (Kd.C_below HC1.out HB.out)).mono ?_
      rintro e wc1 ⟨rfl, hb⟩
      refine ⟨_, rfl, ?_⟩
      have n0_ := Aside0.mk (blk_below HK.out hb)
      have n1_ := Aside0.mk (below_step HB.out hb)
      have n2_ := Aside0.mk (blk_below HT.out hb)
      clear HK HB HT hb
      have HK := n0_
      have HB := n1_
      have HT := n2_
      clear n2_
      clear n0_ n1_
      refine hK.out _ _ (((HB.out.cell (World.block_lt_of_cell? _ _ H0.out)).trans H0.out)) (fun hHeld => ?_)
      clear hK K
      refine norm_ (a' := ?_) ?_ ?_
      rotate_left
      · show Act.put _ (some 23) _ = _
        simp only [Act.put, List.setIfInBounds_toArray, List.set_cons_zero, List.set_cons_succ, i64_w, i32_w]
        rfl
      refine one_ (i := 8) (N := some 25) #[true, true, true, true, true, true, true, true, true, true, false, true, false, false, false, true, false] rfl rfl (by kernel_rfl) (by decide) (fun K hK => ?_)
      refine goes_ Try.func133 (by kernel_rfl) rfl #[.slice (some ad0) l0.length c0, .int .i64 9, .int .i64 2] (by rfl) rfl rfl (by first | (simp only [List.map_toArray, List.map_cons, List.map_nil]; done) | (simp only [List.map_toArray, List.map_cons, List.map_nil]; rfl)) ?_
      with_reducible refine (HG2.out _ (Kd.C_below HR.out HB.out)).mono ?_
      rintro e wc2 ⟨rfl, hb⟩
      refine ⟨_, rfl, ?_⟩
      have n0_ := Aside0.mk (blk_below HK.out hb)
      have n1_ := Aside0.mk (below_step HB.out hb)
      have n2_ := Aside0.mk (blk_below HT.out hb)
      clear HK HB HT hb
      have HK := n0_
      have HB := n1_
      have HT := n2_
      clear n2_
      clear n0_ n1_
      refine hK.out _ _ (((HB.out.cell (World.block_lt_of_cell? _ _ H0.out)).trans H0.out)) (fun hHeld => ?_)
      clear hK K
      refine norm_ (a' := ?_) ?_ ?_
      rotate_left
      · show Act.put _ (some 25) _ = _
        simp only [Act.put, List.setIfInBounds_toArray, List.set_cons_zero, List.set_cons_succ, i64_w, i32_w]
        rfl
      refine one_ (i := 10) (N := some 27) #[true, true, true, true, true, true, true, true, true, true, true, true, false, false, false, true, false] rfl rfl (by kernel_rfl) (by decide) (fun K hK => ?_)
      refine goes_ Try.func133 (by kernel_rfl) rfl #[.slice (some ad0) l0.length c0, .int .i64 11, .int .i64 2] (by rfl) rfl rfl (by first | (simp only [List.map_toArray, List.map_cons, List.map_nil]; done) | (simp only [List.map_toArray, List.map_cons, List.map_nil]; rfl)) ?_
      with_reducible refine (HG3.out _ (Kd.C_below HR.out HB.out)).mono ?_
      rintro e wc3 ⟨rfl, hb⟩
      refine ⟨_, rfl, ?_⟩
      have n0_ := Aside0.mk (blk_below HK.out hb)
      have n1_ := Aside0.mk (below_step HB.out hb)
      have n2_ := Aside0.mk (blk_below HT.out hb)
      clear HK HB HT hb
      have HK := n0_
      have HB := n1_
      have HT := n2_
      clear n2_
      clear n0_ n1_
      refine hK.out _ _ (((HB.out.cell (World.block_lt_of_cell? _ _ H0.out)).trans H0.out)) (fun hHeld => ?_)
      clear hK K
      refine norm_ (a' := ?_) ?_ ?_
      rotate_left
      · show Act.put _ (some 27) _ = _
        simp only [Act.put, List.setIfInBounds_toArray, List.set_cons_zero, List.set_cons_succ, i64_w, i32_w]
        rfl
      refine one_ (i := 12) (N := some 29) #[true, true, true, true, true, true, true, true, true, true, true, true, true, false, false, true, false] rfl rfl (by kernel_rfl) (by decide) (fun K hK => ?_)
      refine goes_ Try.func133 (by kernel_rfl) rfl #[.slice (some ad0) l0.length c0, .int .i64 13, .int .i64 4] (by rfl) rfl rfl (by first | (simp only [List.map_toArray, List.map_cons, List.map_nil]; done) | (simp only [List.map_toArray, List.map_cons, List.map_nil]; rfl)) ?_
      with_reducible refine (HG4.out _ (Kd.C_below HR.out HB.out)).mono ?_
      rintro e wc4 ⟨rfl, hb⟩
      refine ⟨_, rfl, ?_⟩
      have n0_ := Aside0.mk (blk_below HK.out hb)
      have n1_ := Aside0.mk (below_step HB.out hb)
      have n2_ := Aside0.mk (blk_below HT.out hb)
      clear HK HB HT hb
      have HK := n0_
      have HB := n1_
      have HT := n2_
      clear n2_
      clear n0_ n1_
      refine hK.out _ _ (((HB.out.cell (World.block_lt_of_cell? _ _ H0.out)).trans H0.out)) (fun hHeld => ?_)
      clear hK K
      refine norm_ (a' := ?_) ?_ ?_
      rotate_left
      · show Act.put _ (some 29) _ = _
        simp only [Act.put, List.setIfInBounds_toArray, List.set_cons_zero, List.set_cons_succ, i64_w, i32_w]
        rfl
      refine pure_ (i := 13) (N := some 30) (v := ?_) (a' := ?_) #[true, true, true, true, true, true, true, true, true, true, true, true, true, true, false, true, false] rfl rfl (by kernel_rfl) (fun _ _ _ h => h) (Or.inl ⟨by rfl, ?_⟩) ?_ ?_
      rotate_left
      · intro w'
        go_simp
        with_reducible rfl
      rotate_left
      · simp only [Act.put, List.setIfInBounds_toArray, List.set_cons_zero, List.set_cons_succ, i64_w, i32_w]
        rfl
      refine pure_ (i := 14) (N := some 31) (v := ?_) (a' := ?_) #[true, true, true, true, true, true, true, true, true, true, true, true, true, true, true, true, false] rfl rfl (by kernel_rfl) (fun _ _ _ h => h) (Or.inl ⟨by rfl, ?_⟩) ?_ ?_
      rotate_left
      · intro w'
        go_simp
        with_reducible rfl
      rotate_left
      · simp only [Act.put, List.setIfInBounds_toArray, List.set_cons_zero, List.set_cons_succ, i64_w, i32_w]
        rfl
      exact norm_ (by simp only [putAll, Act.put, List.setIfInBounds_toArray, List.set_cons_zero, List.set_cons_succ]) (hCont W1.heap.size _ ⟨HK.out, HT.out, HB.out, HL.out⟩)
  rintro T w5 ⟨hk5, ht5, hb5, hl5⟩
  have HK := Aside0.mk hk5
  have HT := Aside0.mk ht5
  have HB := Aside0.mk hb5
  have HL := Aside0.mk hl5
  have hHeld : w5.cell? ad0 = some (.int .u8 b0) := ((HB.out.cell (World.block_lt_of_cell? _ _ H0.out)).trans H0.out)
  clear hk5 ht5 hb5 hl5
  refine norm_ (a' := ?_) ?_ ?_
  rotate_left
  · simp only [putAll, Act.put, List.setIfInBounds_toArray, List.set_cons_zero, List.set_cons_succ]
    rfl
  refine one_ (i := 16) (N := none) #[true, true, true, true, true, true, true, true, true, true, true, true, true, true, true, true, true] rfl rfl (by kernel_rfl) (by decide) (fun K hK => ?_)
  have t0 : w5.cell? ⟨T, 0, none⟩ = some (.int .i64 0) := (blk_cell HT.out 0).trans rfl
  have t1 : w5.cell? ⟨T, 1, none⟩ = some (.int .u64 0) := (blk_cell HT.out 1).trans rfl
  have t2 : w5.cell? ⟨T, 2, none⟩ = some (.int .i64 0) := (blk_cell HT.out 2).trans rfl
  have t3 : w5.cell? ⟨T, 3, none⟩ = some (.int .i64 0) := (blk_cell HT.out 3).trans rfl
  have t4 : w5.cell? ⟨T, 4, none⟩ = some (.int .u32 0) := (blk_cell HT.out 4).trans rfl
  have t5 : w5.cell? ⟨T, 5, none⟩ = some (.slice none 0 0) := (blk_cell HT.out 5).trans rfl
  have t6 : w5.cell? ⟨T, 6, none⟩ = some (.slice none 0 0) := (blk_cell HT.out 6).trans rfl
  have tf0 : w5.frozen? ⟨T, 0, none⟩ = false := blk_frozen HT.out 0
  have tf1 : w5.frozen? ⟨T, 1, none⟩ = false := blk_frozen HT.out 1
  have tf2 : w5.frozen? ⟨T, 2, none⟩ = false := blk_frozen HT.out 2
  have tf3 : w5.frozen? ⟨T, 3, none⟩ = false := blk_frozen HT.out 3
  have tf4 : w5.frozen? ⟨T, 4, none⟩ = false := blk_frozen HT.out 4
  have tf5 : w5.frozen? ⟨T, 5, none⟩ = false := blk_frozen HT.out 5
  have tf6 : w5.frozen? ⟨T, 6, none⟩ = false := blk_frozen HT.out 6
  refine skip_ (w1 := ?_) (by rfl) rfl ?_ ?_
  rotate_left
  · go_simp
    rfl
  clear t0 t1 t2 t3 t4 t5 t6 tf0 tf1 tf2 tf3 tf4 tf5 tf6
  have hne : w.heap.size ≠ T := Nat.ne_of_lt HL.out
  have hle : w.heap.size ≤ T := Nat.le_of_lt HL.out
  have n0_ := Aside0.mk (blk_far (blk_far (blk_far (blk_far (blk_far (blk_far (blk_far HK.out (p := ⟨T, 0, none⟩) hne (.int .i64 (wrap64 b0))) (p := ⟨T, 1, none⟩) hne (.int .u64 v1)) (p := ⟨T, 2, none⟩) hne (.int .i64 v2)) (p := ⟨T, 3, none⟩) hne (.int .i64 v3)) (p := ⟨T, 4, none⟩) hne (.int .u32 (IntKind.u32.wrap v4))) (p := ⟨T, 5, none⟩) hne (.slice none 0 0)) (p := ⟨T, 6, none⟩) hne (.slice none 0 0))
  have n1_ := Aside0.mk ((blk_put (blk_put (blk_put (blk_put (blk_put (blk_put (blk_put HT.out 0 (.int .i64 (wrap64 b0)) rfl) 1 (.int .u64 v1) rfl) 2 (.int .i64 v2) rfl) 3 (.int .i64 v3) rfl) 4 (.int .u32 (IntKind.u32.wrap v4)) rfl) 5 (.slice none 0 0) rfl) 6 (.slice none 0 0) rfl) : _ = some (Obj.cells #[.int .i64 (wrap64 b0), .int .u64 v1, .int .i64 v2, .int .i64 v3, .int .u32 (IntKind.u32.wrap v4), .slice none 0 0, .slice none 0 0] 56 (0, 0)))
  have n2_ := Aside0.mk (((((((HB.out.setCell (p := ⟨T, 0, none⟩) hle (.int .i64 (wrap64 b0))).setCell (p := ⟨T, 1, none⟩) hle (.int .u64 v1)).setCell (p := ⟨T, 2, none⟩) hle (.int .i64 v2)).setCell (p := ⟨T, 3, none⟩) hle (.int .i64 v3)).setCell (p := ⟨T, 4, none⟩) hle (.int .u32 (IntKind.u32.wrap v4))).setCell (p := ⟨T, 5, none⟩) hle (.slice none 0 0)).setCell (p := ⟨T, 6, none⟩) hle (.slice none 0 0))
  clear HK HT HB hne hle
  have HK := n0_
  have HT := n1_
  have HB := n2_
  clear n0_ n1_ n2_
  refine hK.out _ _ (((HB.out.cell (World.block_lt_of_cell? _ _ H0.out)).trans H0.out)) (fun hHeld => ?_)
  clear hK K
  refine done_ (by kernel_rfl) ?_

  clear q1' HG1 HG2 HG3 HG4 HC1 hHeld
  rw [HE1.out, HE4.out] at HT HK HB ⊢
  clear HE1 HE4
  generalize (((((((w5.setCell ⟨T, 0, none⟩ (.int .i64 kd)).setCell ⟨T, 1, none⟩ (.int .u64 v1)).setCell ⟨T, 2, none⟩ (.int .i64 v2)).setCell ⟨T, 3, none⟩ (.int .i64 v3)).setCell ⟨T, 4, none⟩ (.int .u32 vy)).setCell ⟨T, 5, none⟩ (.slice none 0 0)).setCell ⟨T, 6, none⟩ (.slice none 0 0)) = W at HK HT HB ⊢
  have TN : T ≠ w.heap.size := Nat.ne_of_gt HL.out
  have TL : w.heap.size ≤ T := Nat.le_of_lt HL.out
  have kk0 : W.cell? ⟨T, 0, none⟩ = some (.int .i64 kd) := (blk_cell HT.out 0).trans rfl
  have hk1 : ((kd : Int) == 1) = false := beq_eq_false_iff_ne.mpr hne1
  have kf6 : W.frozen? ⟨T, 6, none⟩ = false := blk_frozen HT.out 6
  have k6 : W.cell? ⟨T, 6, none⟩ = some (.slice none 0 0) := (blk_cell HT.out 6).trans rfl
  go_upto_region 13 with (fail)
  clear kk0 kf6 k6
  have n0_ := Aside0.mk (blk_far HK.out (p := ⟨T, 6, none⟩) (Ne.symm TN) (.slice A5 (mid l0 17 (l0.length - 4)).length (c0 - 17)))
  have n1_ := Aside0.mk (blk_put HT.out 6 (.slice A5 (mid l0 17 (l0.length - 4)).length (c0 - 17)) rfl : _ = some (Obj.cells #[.int .i64 kd, .int .u64 v1, .int .i64 v2, .int .i64 v3, .int .u32 vy, .slice none 0 0, .slice A5 (mid l0 17 (l0.length - 4)).length (c0 - 17)] 56 (0, 0)))
  have n3_ := Aside0.mk (HB.out.setCell (p := ⟨T, 6, none⟩) TL (.slice A5 (mid l0 17 (l0.length - 4)).length (c0 - 17)))
  have HSr := Aside0.mk (Kd.R_nil (Kd.int .i64) 3 (W.setCell ⟨T, 6, none⟩ (.slice A5 (mid l0 17 (l0.length - 4)).length (c0 - 17))) w.heap.size (fun _ => True))
  clear HK HT HB
  have HK := n0_
  have HT := n1_
  have HB := n3_
  clear n0_ n1_ n3_
  generalize W.setCell ⟨T, 6, none⟩ (.slice A5 (mid l0 17 (l0.length - 4)).length (c0 - 17)) = W at HK HT HB HSr ⊢
  have k0 : W.cell? ⟨T, 0, none⟩ = some (.int .i64 kd) := (blk_cell HT.out 0).trans rfl
  have k1 : W.cell? ⟨T, 1, none⟩ = some (.int .u64 v1) := (blk_cell HT.out 1).trans rfl
  have k2 : W.cell? ⟨T, 2, none⟩ = some (.int .i64 v2) := (blk_cell HT.out 2).trans rfl
  have k3 : W.cell? ⟨T, 3, none⟩ = some (.int .i64 v3) := (blk_cell HT.out 3).trans rfl
  have k4 : W.cell? ⟨T, 4, none⟩ = some (.int .u32 vy) := (blk_cell HT.out 4).trans rfl
  have k5 : W.cell? ⟨T, 5, none⟩ = some (.slice none 0 0) := (blk_cell HT.out 5).trans rfl
  have k6 : W.cell? ⟨T, 6, none⟩ = some (.slice A5 (mid l0 17 (l0.length - 4)).length (c0 - 17)) := (blk_cell HT.out 6).trans rfl
  go_wp2_with fail
  clear k0 k1 k2 k3 k4 k5 k6
  refine (scullerref13_Encode.calls kk kd v1 v2 v3 vy none 0 [] A5 (c0 - 17) (mid l0 17 (l0.length - 4)) c er W (Kd.R_reads' HSr.out).2.2 (Kd.R_reads' HSr.out).2.1 (Kd.C_below HC5.out HB.out) HL5.out HCE.out).mono ?_
  rintro e W7 ⟨vc, rfl, hvc, hb⟩
  obtain ⟨Ac, cc, ec⟩ := Kd.R_slice hvc
  subst ec
  have HX := Aside0.mk hvc
  have n0_ := Aside0.mk (blk_below HK.out hb)
  have n1_ := Aside0.mk (blk_below HT.out hb)
  have n2_ := Aside0.mk (Kd.R_below HSr.out hb)
  have n4_ := Aside0.mk (below_step HB.out hb)
  clear HK HT HSr HB hvc hb
  have HK := n0_
  have HT := n1_
  have HSr := n2_
  have HB := n4_
  clear n0_ n1_ n2_ n4_
  by_cases he : er = 0
  · have he1 : ((er : Int) != 0) = false := bne_eq_false_iff_eq.mpr he
    have he2 : ((er : Int) == 0) = true := beq_iff_eq.mpr he
    have hr := HRES.out
    rw [if_pos he] at hr
    clear he
    have hs1 := Kd.C_string (P := Try.prog) (A := Ac) (c := cc) Try.underlying22 Try.underlying5 Try.underlying9 (Kd.R_reads' HX.out).2.2
    have hs2 := Kd.C_string (P := Try.prog) (A := some ad0) (c := c0) Try.underlying22 Try.underlying5 Try.underlying9 (Kd.C_below HR.out HB.out)
    have z0 : W7.cell? ⟨w.heap.size, 0, none⟩ = some (.int .i64 0) := (blk_cell HK.out 0).trans rfl
    have z1 : W7.cell? ⟨w.heap.size, 1, none⟩ = some (.int .u64 0) := (blk_cell HK.out 1).trans rfl
    have z2 : W7.cell? ⟨w.heap.size, 2, none⟩ = some (.int .i64 0) := (blk_cell HK.out 2).trans rfl
    have z3 : W7.cell? ⟨w.heap.size, 3, none⟩ = some (.int .i64 0) := (blk_cell HK.out 3).trans rfl
    have z4 : W7.cell? ⟨w.heap.size, 4, none⟩ = some (.int .u32 0) := (blk_cell HK.out 4).trans rfl
    have z5 : W7.cell? ⟨w.heap.size, 5, none⟩ = some (.slice none 0 0) := (blk_cell HK.out 5).trans rfl
    have z6 : W7.cell? ⟨w.heap.size, 6, none⟩ = some (.slice none 0 0) := (blk_cell HK.out 6).trans rfl
    have zf0 : W7.frozen? ⟨w.heap.size, 0, none⟩ = false := blk_frozen HK.out 0
    have zf1 : W7.frozen? ⟨w.heap.size, 1, none⟩ = false := blk_frozen HK.out 1
    have zf2 : W7.frozen? ⟨w.heap.size, 2, none⟩ = false := blk_frozen HK.out 2
    have zf3 : W7.frozen? ⟨w.heap.size, 3, none⟩ = false := blk_frozen HK.out 3
    have zf4 : W7.frozen? ⟨w.heap.size, 4, none⟩ = false := blk_frozen HK.out 4
    have zf5 : W7.frozen? ⟨w.heap.size, 5, none⟩ = false := blk_frozen HK.out 5
    have zf6 : W7.frozen? ⟨w.heap.size, 6, none⟩ = false := blk_frozen HK.out 6
    have k0 : W7.cell? ⟨T, 0, none⟩ = some (.int .i64 kd) := (blk_cell HT.out 0).trans rfl
    have k1 : W7.cell? ⟨T, 1, none⟩ = some (.int .u64 v1) := (blk_cell HT.out 1).trans rfl
    have k2 : W7.cell? ⟨T, 2, none⟩ = some (.int .i64 v2) := (blk_cell HT.out 2).trans rfl
    have k3 : W7.cell? ⟨T, 3, none⟩ = some (.int .i64 v3) := (blk_cell HT.out 3).trans rfl
    have k4 : W7.cell? ⟨T, 4, none⟩ = some (.int .u32 vy) := (blk_cell HT.out 4).trans rfl
    have k5 : W7.cell? ⟨T, 5, none⟩ = some (.slice none 0 0) := (blk_cell HT.out 5).trans rfl
    have k6 : W7.cell? ⟨T, 6, none⟩ = some (.slice A5 (mid l0 17 (l0.length - 4)).length (c0 - 17)) := (blk_cell HT.out 6).trans rfl
    have hq := HQ.out
    cases q with
    | true =>
      have hq2 : ((strOfNums c).toList != (strOfNums l0).toList) = false := by rw [bne, hq]; rfl
      rw [if_pos rfl] at hr
      simp only [Option.some.injEq, Prod.mk.injEq] at hr
      obtain ⟨rfl, rfl, rfl, rfl, rfl, rfl, rfl, rfl⟩ := hr
      go_wp2
      exact bodyPost_ret (v := .tuple #[.agg #[.int .i64 kd, .int .u64 v1, .int .i64 v2, .int .i64 v3, .int .u32 vy, .slice none 0 0, .slice A5 (mid l0 17 (l0.length - 4)).length (c0 - 17)], .int .i64 0]) (by simp [results, Try.results89, go_sem, z0, z1, z2, z3, z4, z5, z6]) rfl ⟨_, _, _, rfl, (Kd.R_mono (Kd.R_far (p := ⟨w.heap.size, 6, none⟩) (Kd.R_far (p := ⟨w.heap.size, 5, none⟩) (Kd.R_far (p := ⟨w.heap.size, 4, none⟩) (Kd.R_far (p := ⟨w.heap.size, 3, none⟩) (Kd.R_far (p := ⟨w.heap.size, 2, none⟩) (Kd.R_far (p := ⟨w.heap.size, 1, none⟩) (Kd.R_far (p := ⟨w.heap.size, 0, none⟩) (Kd.R_types HSr.out HK.out (by decide)) (fun _ hk => hk.2) (.int .i64 kd)) (fun _ hk => hk.2) (.int .u64 v1)) (fun _ hk => hk.2) (.int .i64 v2)) (fun _ hk => hk.2) (.int .i64 v3)) (fun _ hk => hk.2) (.int .u32 vy)) (fun _ hk => hk.2) (.slice none 0 0)) (fun _ hk => hk.2) (.slice A5 (mid l0 17 (l0.length - 4)).length (c0 - 17))) (fun _ _ => trivial)), (Kd.C_below HC5.out (by (repeat (first | (with_reducible exact HB.out) | refine below_set ?_ (Nat.le_refl _))))), HL5.out, by (repeat (first | (with_reducible exact HB.out) | refine below_set ?_ (Nat.le_refl _)))⟩
    | false =>
      have hq2 : ((strOfNums c).toList != (strOfNums l0).toList) = true := by rw [bne, hq]; rfl
      rw [if_neg (by simp)] at hr
      simp only [Option.some.injEq, Prod.mk.injEq] at hr
      obtain ⟨rfl, rfl, rfl, rfl, rfl, rfl, rfl, rfl⟩ := hr
      go_wp2
      exact bodyPost_ret (v := .tuple #[.agg #[.int .i64 0, .int .u64 0, .int .i64 0, .int .i64 0, .int .u32 0, .slice none 0 0, .slice none 0 0], .int .i64 11]) (by simp [results, Try.results89, go_sem, z0, z1, z2, z3, z4, z5, z6]) rfl ⟨_, _, _, rfl, Kd.R_nil _ _ _ _ _, Kd.C_nil _ _, Nat.le_refl _, by (repeat (first | (with_reducible exact HB.out) | refine below_set ?_ (Nat.le_refl _)))⟩
  · have he1 : ((er : Int) != 0) = true := bne_iff_ne.mpr he
    have he2 : ((er : Int) == 0) = false := beq_eq_false_iff_ne.mpr he
    have hr := HRES.out
    rw [if_neg he] at hr
    clear he
    simp only [Option.some.injEq, Prod.mk.injEq] at hr
    obtain ⟨rfl, rfl, rfl, rfl, rfl, rfl, rfl, rfl⟩ := hr
    have z0 : W7.cell? ⟨w.heap.size, 0, none⟩ = some (.int .i64 0) := (blk_cell HK.out 0).trans rfl
    have z1 : W7.cell? ⟨w.heap.size, 1, none⟩ = some (.int .u64 0) := (blk_cell HK.out 1).trans rfl
    have z2 : W7.cell? ⟨w.heap.size, 2, none⟩ = some (.int .i64 0) := (blk_cell HK.out 2).trans rfl
    have z3 : W7.cell? ⟨w.heap.size, 3, none⟩ = some (.int .i64 0) := (blk_cell HK.out 3).trans rfl
    have z4 : W7.cell? ⟨w.heap.size, 4, none⟩ = some (.int .u32 0) := (blk_cell HK.out 4).trans rfl
    have z5 : W7.cell? ⟨w.heap.size, 5, none⟩ = some (.slice none 0 0) := (blk_cell HK.out 5).trans rfl
    have z6 : W7.cell? ⟨w.heap.size, 6, none⟩ = some (.slice none 0 0) := (blk_cell HK.out 6).trans rfl
    have zf0 : W7.frozen? ⟨w.heap.size, 0, none⟩ = false := blk_frozen HK.out 0
    have zf1 : W7.frozen? ⟨w.heap.size, 1, none⟩ = false := blk_frozen HK.out 1
    have zf2 : W7.frozen? ⟨w.heap.size, 2, none⟩ = false := blk_frozen HK.out 2
    have zf3 : W7.frozen? ⟨w.heap.size, 3, none⟩ = false := blk_frozen HK.out 3
    have zf4 : W7.frozen? ⟨w.heap.size, 4, none⟩ = false := blk_frozen HK.out 4
    have zf5 : W7.frozen? ⟨w.heap.size, 5, none⟩ = false := blk_frozen HK.out 5
    have zf6 : W7.frozen? ⟨w.heap.size, 6, none⟩ = false := blk_frozen HK.out 6
    go_wp2
    exact bodyPost_ret (v := .tuple #[.agg #[.int .i64 0, .int .u64 0, .int .i64 0, .int .i64 0, .int .u32 0, .slice none 0 0, .slice none 0 0], .int .i64 11]) (by simp [results, Try.results89, go_sem, z0, z1, z2, z3, z4, z5, z6]) rfl ⟨_, _, _, rfl, Kd.R_nil _ _ _ _ _, Kd.C_nil _ _, Nat.le_refl _, by (repeat (first | (with_reducible exact HB.out) | refine below_set ?_ (Nat.le_refl _)))⟩
set_option maxRecDepth 100000 in
set_option maxHeartbeats 16000000 in
theorem rparse_offer (kk : Nat) (A0 : Option Addr) (c0 : Nat) (l0 : List Int) (w : World) (h21 : ¬ (l0.length : Int) < 21) (hr0 : Kd.C (Kd.int .u8) w A0 l0.length l0) (hc0 : l0.length ≤ c0) (h : scullerref02_Right.f kk l0 = some true) (b0 v1 v2 v3 v4 : Int) (e6 : rd l0 0 = b0) (e1 : scullerref01_Get.f kk (mid l0 1 9) = some v1) (e2 : scullerref13_get.f kk l0 9 2 = some v2) (e3 : scullerref13_get.f kk l0 11 2 = some v3) (e4 : scullerref13_get.f kk l0 13 4 = some v4) (kd vy : Int) (hkd : wrap64 b0 = kd) (hvy : IntKind.u32.wrap v4 = vy) (hk1_ : kd = 1) (SZ : List Int) (hbig : l0.length < 17592186044416) (hlen : SZ.length = (mid l0 17 (l0.length - 4)).length / 2) (hget : ∀ j, j < SZ.length → scullerref13_get.f kk (mid l0 17 (l0.length - 4)) ((2 * j : Nat) : Int) 2 = some (SZ.getD j 0)) (c : List Int) (er : Int) (q : Bool) (hce : scullerref13_Encode.f kk kd v1 v2 v3 vy SZ [] = some (c, er)) (hq : ((strOfNums c).toList == (strOfNums l0).toList) = q) (r0 r1 r2 r3 r4 : Int) (r5 r6 : List Int) (r7 : Int) (hres : (if er = 0 then (if q = true then some (kd, v1, v2, v3, vy, SZ, [], 0) else some (0, 0, 0, 0, 0, [], [], 11)) else some (0, 0, 0, 0, 0, [], [], 11)) = some (r0, r1, r2, r3, r4, r5, r6, r7)) :
    Calls Try.prog 89 #[.slice A0 l0.length c0] w fun e w' => ∃ (v5_ : Value) (Ab : Option Addr) (cb : Nat), e = .returned (.tuple #[.agg #[.int .i64 r0, .int .u64 r1, .int .i64 r2, .int .i64 r3, .int .u32 r4, v5_, .slice Ab r6.length cb], .int .i64 r7]) ∧ Kd.R (Kd.int .i64) 3 w' w.heap.size (fun _ => True) v5_ r5 ∧ Kd.C (Kd.int .u8) w' Ab r6.length r6 ∧ r6.length ≤ cb ∧ Below w.heap.size w w' := by
  have h1 : decide ((l0.length : Int) < 21) = false := decide_eq_false h21
  have HC := fun W h1 => scullerref02_Right.calls kk A0 c0 l0 true W h1 hc0 h
  have HR := Aside0.mk hr0
  have hmx : (l0.length : Int) ≤ 9223372036854775807 := by have := (Kd.reads_of_C (d := (0 : Int)) hr0).2.1; unfold maxLen at this; omega
  obtain ⟨ad0, e0, hcell0⟩ := Kd.at_int hr0 (0 : Int) (by omega) (by omega)
  obtain ⟨A1, q1, p1, g1⟩ := cut_at A0 c0 l0 1 9 (by omega) (by omega) hc0
  obtain ⟨A5, q5, p5, g5⟩ := cut_at A0 c0 l0 17 (l0.length - 4) (by omega) (by omega) hc0
  have q5' : ∀ W : World, (Instr.slice 22 (.slice A0 l0.length c0) (some (.int .i64 17)) (some (.int .i64 ((l0.length : Int) - 4))) none).run Try.prog W = .ok (.slice A5 (mid l0 17 (l0.length - 4)).length (c0 - 17)) W := by
    intro W; have := q5 W; rwa [show ((l0.length - 4 : Nat) : Int) = (l0.length : Int) - 4 by omega] at this
  have HC1 := Aside0.mk (p1 w hr0)
  have HC5 := Aside0.mk (p5 w hr0)
  have HL5 := Aside0.mk g5
  have HG1 := Aside0.mk (fun W h => scullerref01_Get.calls kk A1 (c0 - 1) (mid l0 1 9) v1 W h g1 e1)
  have HG2 := Aside0.mk (fun W h => scullerref13_get.calls kk A0 c0 l0 9 2 v2 W h hc0 e2)
  have HG3 := Aside0.mk (fun W h => scullerref13_get.calls kk A0 c0 l0 11 2 v3 W h hc0 e3)
  have HG4 := Aside0.mk (fun W h => scullerref13_get.calls kk A0 c0 l0 13 4 v4 W h hc0 e4)
  have q1' : ∀ W : World, (Instr.slice 22 (.slice A0 l0.length c0) (some (.int .i64 1)) (some (.int .i64 9)) none).run Try.prog W = .ok (.slice A1 (mid l0 1 9).length (c0 - 1)) W := q1
  clear e1 e2 e3 e4 q1 q5 p1 p5 g1 g5 h hr0
  have H21 := Aside0.mk h21
  have h17 : ((l0.length : Int) < 17) = False := eq_false (by omega)
  clear h21
  subst e0
  have h0l : 0 < l0.length := by have := H21.out; omega
  rw [show ad0.add (0 : Int).toNat = ad0 by simp [Addr.add], e6] at hcell0
  have H0 := Aside0.mk hcell0
  clear hcell0 e6
  have HCE := Aside0.mk hce
  have HQ := Aside0.mk hq
  have HRES := Aside0.mk hres
  have HE1 := Aside0.mk hkd
  have HE4 := Aside0.mk hvy
  clear hce hq hres hkd hvy
  go_enter Try.func89, Try.ntmps89
  go_wp2_with fail
  refine (HC _ (Kd.C_alloc HR.out _)).mono ?_
  rintro e w1 ⟨rfl, hb⟩
  have HK := Aside0.mk (blk_below (blk_new w (.cells #[.int .i64 0, .int .u64 0, .int .i64 0, .int .i64 0, .int .u32 0, .slice none 0 0, .slice none 0 0] 56)) hb)
  have HB := Aside0.mk (below_step (below_alloc (Below.refl w.heap.size w) _) hb)
  clear hb HC
  go_wp2_with fail
  have n0_ := Aside0.mk (blk_drew HK.out)
  have n1_ := Aside0.mk (below_drew1 HB.out)
  clear HK HB
  have HK := n0_
  have HB := n1_
  clear n0_ n1_
  refine start_ (n := 17) (S := fun w' => w'.cell? ad0 = some (.int .u8 b0)) (ds := []) #[false, false, false, false, false, false, false, false, false, false, false, false, false, false, false, false, false] (by kernel_rfl) rfl rfl (((HB.out.cell (World.block_lt_of_cell? _ _ H0.out)).trans H0.out)) (fun hHeld => ?_)
  generalize w1.drew = W1 at HK HB hHeld ⊢
  refine pure_ (i := 0) (N := some 17) (v := ?_) (a' := ?_) #[true, false, false, false, false, false, false, false, false, false, false, false, false, false, false, false, false] rfl rfl (by kernel_rfl) (fun _ _ _ h => h) (Or.inl ⟨by rfl, ?_⟩) ?_ ?_
  rotate_left
  · intro w'
    go_simp
    with_reducible rfl
  rotate_left
  · simp only [Act.put, List.setIfInBounds_toArray, List.set_cons_zero, List.set_cons_succ, i64_w, i32_w]
    rfl
  refine pure_ (i := 1) (N := some 18) (v := ?_) (a' := ?_) #[true, true, false, false, false, false, false, false, false, false, false, false, false, false, false, false, false] rfl rfl (by kernel_rfl) (fun _ _ _ h => h) (Or.inl ⟨by rfl, ?_⟩) ?_ ?_
  rotate_left
  · intro w'
    go_simp
    with_reducible rfl
  rotate_left
  · simp only [Act.put, List.setIfInBounds_toArray, List.set_cons_zero, List.set_cons_succ, i64_w, i32_w]
    rfl
  refine pure_ (i := 4) (N := some 21) (v := ?_) (a' := ?_) #[true, true, false, false, true, false, false, false, false, false, false, false, false, false, false, false, false] rfl rfl (by kernel_rfl) (fun _ _ _ h => h) (Or.inl ⟨by rfl, ?_⟩) ?_ ?_
  rotate_left
  · intro w'
    go_simp
    with_reducible rfl
  rotate_left
  · simp only [Act.put, List.setIfInBounds_toArray, List.set_cons_zero, List.set_cons_succ, i64_w, i32_w]
    rfl
  refine pure_ (i := 5) (N := some 22) (v := ?_) (a' := ?_) #[true, true, false, false, true, true, false, false, false, false, false, false, false, false, false, false, false] rfl rfl (by kernel_rfl) (fun _ _ _ h => h) (Or.inl ⟨by rfl, ?_⟩) ?_ ?_
  rotate_left
  · intro w'
    go_simp
    with_reducible rfl
  rotate_left
  · simp only [Act.put, List.setIfInBounds_toArray, List.set_cons_zero, List.set_cons_succ, i64_w, i32_w]
    rfl
  refine pure_ (i := 7) (N := some 24) (v := ?_) (a' := ?_) #[true, true, false, false, true, true, false, true, false, false, false, false, false, false, false, false, false] rfl rfl (by kernel_rfl) (fun _ _ _ h => h) (Or.inl ⟨by rfl, ?_⟩) ?_ ?_
  rotate_left
  · intro w'
    go_simp
    with_reducible rfl
  rotate_left
  · simp only [Act.put, List.setIfInBounds_toArray, List.set_cons_zero, List.set_cons_succ, i64_w, i32_w]
    rfl
  refine pure_ (i := 9) (N := some 26) (v := ?_) (a' := ?_) #[true, true, false, false, true, true, false, true, false, true, false, false, false, false, false, false, false] rfl rfl (by kernel_rfl) (fun _ _ _ h => h) (Or.inl ⟨by rfl, ?_⟩) ?_ ?_
  rotate_left
  · intro w'
    go_simp
    with_reducible rfl
  rotate_left
  · simp only [Act.put, List.setIfInBounds_toArray, List.set_cons_zero, List.set_cons_succ, i64_w, i32_w]
    rfl
  refine pure_ (i := 11) (N := some 28) (v := ?_) (a' := ?_) #[true, true, false, false, true, true, false, true, false, true, false, true, false, false, false, false, false] rfl rfl (by kernel_rfl) (fun _ _ _ h => h) (Or.inl ⟨by rfl, ?_⟩) ?_ ?_
  rotate_left
  · intro w'
    go_simp
    with_reducible rfl
  rotate_left
  · simp only [Act.put, List.setIfInBounds_toArray, List.set_cons_zero, List.set_cons_succ, i64_w, i32_w]
    rfl
  refine take_ (i := 2) (N := some 19) (v := ?_) (a' := ?_) #[true, true, true, false, true, true, false, true, false, true, false, true, false, false, false, false, false] rfl rfl (by kernel_rfl) (fun _ _ _ h => h) (Or.inl ⟨by rfl, ?_⟩) hHeld ?_ ?_
  rotate_left
  · intro w' s0
    go_simp
    with_reducible rfl
  rotate_left
  · simp only [Act.put, List.setIfInBounds_toArray, List.set_cons_zero, List.set_cons_succ, i64_w, i32_w]
    rfl
  refine pure_ (i := 3) (N := some 20) (v := ?_) (a' := ?_) #[true, true, true, true, true, true, false, true, false, true, false, true, false, false, false, false, false] rfl rfl (by kernel_rfl) (fun _ _ _ h => h) (Or.inl ⟨by rfl, ?_⟩) ?_ ?_
  rotate_left
  · intro w'
    go_simp
    with_reducible rfl
  rotate_left
  · simp only [Act.put, List.setIfInBounds_toArray, List.set_cons_zero, List.set_cons_succ, i64_w, i32_w]
    rfl
  refine join_ (σ := Nat) 1 #[true, true, true, true, true, true, true, true, true, true, true, true, true, true, true, true, false] (fun s => [(23, .int .u64 v1), (25, .int .i64 v2), (27, .int .i64 v3), (29, .int .i64 v4), (30, .int .u32 (IntKind.u32.wrap v4)), (31, .agg #[.int .i64 (wrap64 b0), .int .u64 v1, .int .i64 v2, .int .i64 v3, .int .u32 (IntKind.u32.wrap v4), .slice none 0 0, .slice none 0 0]), (4, .pointer (some ⟨s, 0, none⟩))]) (fun s w' => w'.heap[w.heap.size]? = some (.cells #[.int .i64 0, .int .u64 0, .int .i64 0, .int .i64 0, .int .u32 0, .slice none 0 0, .slice none 0 0] 56 (0, 0)) ∧ w'.heap[s]? = some (.cells #[.int .i64 0, .int .u64 0, .int .i64 0, .int .i64 0, .int .u32 0, .slice none 0 0, .slice none 0 0] 56 (0, 0)) ∧ Below w.heap.size w w' ∧ w.heap.size < s) ?_ ?_
  rotate_left
  · intro hCont
    refine two_ (i := 6) (j := 15) (Ni := some 23) (Nj := some 4) #[true, true, true, true, true, true, true, true, false, true, false, true, false, false, false, false, false] #[true, true, true, true, true, true, false, true, false, true, false, true, false, false, false, true, false] rfl rfl rfl rfl (by kernel_rfl) (by decide) (by decide) (fun K hK => ?_) (fun K hK => ?_)
    · skip
      refine goes_ Try.func132 (by kernel_rfl) rfl #[.slice A1 (mid l0 1 9).length (c0 - 1)] (by rfl) rfl rfl (by first | (simp only [List.map_toArray, List.map_cons, List.map_nil]; done) | (simp only [List.map_toArray, List.map_cons, List.map_nil]; rfl)) ?_
      with_reducible refine (HG1.out _ (Kd.C_below HC1.out HB.out)).mono ?_
      rintro e wc1 ⟨rfl, hb⟩
      refine ⟨_, rfl, ?_⟩
      have n0_ := Aside0.mk (blk_below HK.out hb)
      have n1_ := Aside0.mk (below_step HB.out hb)
      clear HK HB hb
      have HK := n0_
      have HB := n1_
      clear n0_ n1_
      refine hK.out _ _ (((HB.out.cell (World.block_lt_of_cell? _ _ H0.out)).trans H0.out)) (fun hHeld => ?_)
      clear hK K
      refine norm_ (a' := ?_) ?_ ?_
      rotate_left
      · show Act.put _ (some 23) _ = _
        simp only [Act.put, List.setIfInBounds_toArray, List.set_cons_zero, List.set_cons_succ, i64_w, i32_w]
        rfl
      refine two_ (i := 8) (j := 15) (Ni := some 25) (Nj := some 4) #[true, true, true, true, true, true, true, true, true, true, false, true, false, false, false, false, false] #[true, true, true, true, true, true, true, true, false, true, false, true, false, false, false, true, false] rfl rfl rfl rfl (by kernel_rfl) (by decide) (by decide) (fun K hK => ?_) (fun K hK => ?_)
      · skip
        refine goes_ Try.func133 (by kernel_rfl) rfl #[.slice (some ad0) l0.length c0, .int .i64 9, .int .i64 2] (by rfl) rfl rfl (by first | (simp only [List.map_toArray, List.map_cons, List.map_nil]; done) | (simp only [List.map_toArray, List.map_cons, List.map_nil]; rfl)) ?_
        with_reducible refine (HG2.out _ (Kd.C_below HR.out HB.out)).mono ?_
        rintro e wc2 ⟨rfl, hb⟩
        refine ⟨_, rfl, ?_⟩
        have n0_ := Aside0.mk (blk_below HK.out hb)
        have n1_ := Aside0.mk (below_step HB.out hb)
        clear HK HB hb
        have HK := n0_
        have HB := n1_
        clear n0_ n1_
        refine hK.out _ _ (((HB.out.cell (World.block_lt_of_cell? _ _ H0.out)).trans H0.out)) (fun hHeld => ?_)
        clear hK K
        refine norm_ (a' := ?_) ?_ ?_
        rotate_left
        · show Act.put _ (some 25) _ = _
          simp only [Act.put, List.setIfInBounds_toArray, List.set_cons_zero, List.set_cons_succ, i64_w, i32_w]
          rfl
        refine two_ (i := 10) (j := 15) (Ni := some 27) (Nj := some 4) #[true, true, true, true, true, true, true, true, true, true, true, true, false, false, false, false, false] #[true, true, true, true, true, true, true, true, true, true, false, true, false, false, false, true, false] rfl rfl rfl rfl (by kernel_rfl) (by decide) (by decide) (fun K hK => ?_) (fun K hK => ?_)
        · skip
          refine goes_ Try.func133 (by kernel_rfl) rfl #[.slice (some ad0) l0.length c0, .int .i64 11, .int .i64 2] (by rfl) rfl rfl (by first | (simp only [List.map_toArray, List.map_cons, List.map_nil]; done) | (simp only [List.map_toArray, List.map_cons, List.map_nil]; rfl)) ?_
          with_reducible refine (HG3.out _ (Kd.C_below HR.out HB.out)).mono ?_
          rintro e wc3 ⟨rfl, hb⟩
          refine ⟨_, rfl, ?_⟩
          have n0_ := Aside0.mk (blk_below HK.out hb)
          have n1_ := Aside0.mk (below_step HB.out hb)
          clear HK HB hb
          have HK := n0_
          have HB := n1_
          clear n0_ n1_
          refine hK.out _ _ (((HB.out.cell (World.block_lt_of_cell? _ _ H0.out)).trans H0.out)) (fun hHeld => ?_)
          clear hK K
          refine norm_ (a' := ?_) ?_ ?_
          rotate_left
          · show Act.put _ (some 27) _ = _
            simp only [Act.put, List.setIfInBounds_toArray, List.set_cons_zero, List.set_cons_succ, i64_w, i32_w]
            rfl
          refine two_ (i := 12) (j := 15) (Ni := some 29) (Nj := some 4) #[true, true, true, true, true, true, true, true, true, true, true, true, true, false, false, false, false] #[true, true, true, true, true, true, true, true, true, true, true, true, false, false, false, true, false] rfl rfl rfl rfl (by kernel_rfl) (by decide) (by decide) (fun K hK => ?_) (fun K hK => ?_)
          · skip
            refine goes_ Try.func133 (by kernel_rfl) rfl #[.slice (some ad0) l0.length c0, .int .i64 13, .int .i64 4] (by rfl) rfl rfl (by first | (simp only [List.map_toArray, List.map_cons, List.map_nil]; done) | (simp only [List.map_toArray, List.map_cons, List.map_nil]; rfl)) ?_
            with_reducible refine (HG4.out _ (Kd.C_below HR.out HB.out)).mono ?_
            rintro e wc4 ⟨rfl, hb⟩
            refine ⟨_, rfl, ?_⟩
            have n0_ := Aside0.mk (blk_below HK.out hb)
            have n1_ := Aside0.mk (below_step HB.out hb)
            clear HK HB hb
            have HK := n0_
            have HB := n1_
            clear n0_ n1_
            refine hK.out _ _ (((HB.out.cell (World.block_lt_of_cell? _ _ H0.out)).trans H0.out)) (fun hHeld => ?_)
            clear hK K
            refine norm_ (a' := ?_) ?_ ?_
            rotate_left
            · show Act.put _ (some 29) _ = _
              simp only [Act.put, List.setIfInBounds_toArray, List.set_cons_zero, List.set_cons_succ, i64_w, i32_w]
              rfl
            refine pure_ (i := 13) (N := some 30) (v := ?_) (a' := ?_) #[true, true, true, true, true, true, true, true, true, true, true, true, true, true, false, false, false] rfl rfl (by kernel_rfl) (fun _ _ _ h => h) (Or.inl ⟨by rfl, ?_⟩) ?_ ?_
            rotate_left
            · intro w'
              go_simp
              with_reducible rfl
            rotate_left
            · simp only [Act.put, List.setIfInBounds_toArray, List.set_cons_zero, List.set_cons_succ, i64_w, i32_w]
              rfl
            refine pure_ (i := 14) (N := some 31) (v := ?_) (a' := ?_) #[true, true, true, true, true, true, true, true, true, true, true, true, true, true, true, false, false] rfl rfl (by kernel_rfl) (fun _ _ _ h => h) (Or.inl ⟨by rfl, ?_⟩) ?_ ?_
            rotate_left
            · intro w'
              go_simp
              with_reducible rfl
            rotate_left
            · simp only [Act.put, List.setIfInBounds_toArray, List.set_cons_zero, List.set_cons_succ, i64_w, i32_w]
              rfl
            refine one_ (i := 15) (N := some 4) #[true, true, true, true, true, true, true, true, true, true, true, true, true, true, true, true, false] rfl rfl (by kernel_rfl) (by decide) (fun K hK => ?_)
            have HL := Aside0.mk (blk_lt HK.out)
            refine value_ (w1 := ?_) (v := ?_) (by rfl) rfl ?_ ?_
            rotate_left 2
            · go_simp
              constructor
              · rfl
              · rfl
            have HT := Aside0.mk (blk_new _ (.cells #[.int .i64 0, .int .u64 0, .int .i64 0, .int .i64 0, .int .u32 0, .slice none 0 0, .slice none 0 0] 56) : (wc4.alloc (.cells #[.int .i64 0, .int .u64 0, .int .i64 0, .int .i64 0, .int .u32 0, .slice none 0 0, .slice none 0 0] 56)).heap[wc4.heap.size]? = _)
            have n0_ := Aside0.mk (blk_alloc HK.out (.cells #[.int .i64 0, .int .u64 0, .int .i64 0, .int .i64 0, .int .u32 0, .slice none 0 0, .slice none 0 0] 56))
            have n1_ := Aside0.mk (below_alloc HB.out (.cells #[.int .i64 0, .int .u64 0, .int .i64 0, .int .i64 0, .int .u32 0, .slice none 0 0, .slice none 0 0] 56))
            clear HK HB
            have HK := n0_
            have HB := n1_
            clear n0_ n1_
            refine hK.out _ _ (((HB.out.cell (World.block_lt_of_cell? _ _ H0.out)).trans H0.out)) (fun hHeld => ?_)
            clear hK K
            refine norm_ (a' := ?_) ?_ ?_
            rotate_left
            · show Act.put _ (some 4) _ = _
              simp only [Act.put, List.setIfInBounds_toArray, List.set_cons_zero, List.set_cons_succ, i64_w, i32_w]
              rfl
            exact norm_ (by simp only [putAll, Act.put, List.setIfInBounds_toArray, List.set_cons_zero, List.set_cons_succ]) (hCont wc4.heap.size _ ⟨HK.out, HT.out, HB.out, HL.out⟩)
          · skip
            have HL := Aside0.mk (blk_lt HK.out)
            refine value_ (w1 := ?_) (v := ?_) (by rfl) rfl ?_ ?_
            rotate_left 2
            · go_simp
              constructor
              · rfl
              · rfl
            have HT := Aside0.mk (blk_new _ (.cells #[.int .i64 0, .int .u64 0, .int .i64 0, .int .i64 0, .int .u32 0, .slice none 0 0, .slice none 0 0] 56) : (wc3.alloc (.cells #[.int .i64 0, .int .u64 0, .int .i64 0, .int .i64 0, .int .u32 0, .slice none 0 0, .slice none 0 0] 56)).heap[wc3.heap.size]? = _)
            have n0_ := Aside0.mk (blk_alloc HK.out (.cells #[.int .i64 0, .int .u64 0, .int .i64 0, .int .i64 0, .int .u32 0, .slice none 0 0, .slice none 0 0] 56))
            have n1_ := Aside0.mk (below_alloc HB.out (.cells #[.int .i64 0, .int .u64 0, .int .i64 0, .int .i64 0, .int .u32 0, .slice none 0 0, .slice none 0 0] 56))
            clear HK HB
            have HK := n0_
            have HB := n1_
            clear n0_ n1_
            refine hK.out _ _ (((HB.out.cell (World.block_lt_of_cell? _ _ H0.out)).trans H0.out)) (fun hHeld => ?_)
            clear hK K
            refine norm_ (a' := ?_) ?_ ?_
            rotate_left
            · show Act.put _ (some 4) _ = _
              simp only [Act.put, List.setIfInBounds_toArray, List.set_cons_zero, List.set_cons_succ, i64_w, i32_w]
              rfl
            refine one_ (i := 12) (N := some 29) #[true, true, true, true, true, true, true, true, true, true, true, true, true, false, false, true, false] rfl rfl (by kernel_rfl) (by decide) (fun K hK => ?_)
            refine goes_ Try.func133 (by kernel_rfl) rfl #[.slice (some ad0) l0.length c0, .int .i64 13, .int .i64 4] (by rfl) rfl rfl (by first | (simp only [List.map_toArray, List.map_cons, List.map_nil]; done) | (simp only [List.map_toArray, List.map_cons, List.map_nil]; rfl)) ?_
            with_reducible refine (HG4.out _ (Kd.C_below HR.out HB.out)).mono ?_
            rintro e wc4 ⟨rfl, hb⟩
            refine ⟨_, rfl, ?_⟩
            have n0_ := Aside0.mk (blk_below HK.out hb)
            have n1_ := Aside0.mk (below_step HB.out hb)
            have n2_ := Aside0.mk (blk_below HT.out hb)
            clear HK HB HT hb
            have HK := n0_
            have HB := n1_
            have HT := n2_
            clear n2_
            clear n0_ n1_
            refine hK.out _ _ (((HB.out.cell (World.block_lt_of_cell? _ _ H0.out)).trans H0.out)) (fun hHeld => ?_)
            clear hK K
            refine norm_ (a' := ?_) ?_ ?_
            rotate_left
            · show Act.put _ (some 29) _ = _
              simp only [Act.put, List.setIfInBounds_toArray, List.set_cons_zero, List.set_cons_succ, i64_w, i32_w]
              rfl
            refine pure_ (i := 13) (N := some 30) (v := ?_) (a' := ?_) #[true, true, true, true, true, true, true, true, true, true, true, true, true, true, false, true, false] rfl rfl (by kernel_rfl) (fun _ _ _ h => h) (Or.inl ⟨by rfl, ?_⟩) ?_ ?_
            rotate_left
            · intro w'
              go_simp
              with_reducible rfl
            rotate_left
            · simp only [Act.put, List.setIfInBounds_toArray, List.set_cons_zero, List.set_cons_succ, i64_w, i32_w]
              rfl
            refine pure_ (i := 14) (N := some 31) (v := ?_) (a' := ?_) #[true, true, true, true, true, true, true, true, true, true, true, true, true, true, true, true, false] rfl rfl (by kernel_rfl) (fun _ _ _ h => h) (Or.inl ⟨by rfl, ?_⟩) ?_ ?_
            rotate_left
            · intro w'
              go_simp
              with_reducible rfl
            rotate_left
            · simp only [Act.put, List.setIfInBounds_toArray, List.set_cons_zero, List.set_cons_succ, i64_w, i32_w]
              rfl
            exact norm_ (by simp only [putAll, Act.put, List.setIfInBounds_toArray, List.set_cons_zero, List.set_cons_succ]) (hCont wc3.heap.size _ ⟨HK.out, HT.out, HB.out, HL.out⟩)
        · skip
          have HL := Aside0.mk (blk_lt HK.out)
          refine value_ (w1 := ?_) (v := ?_) (by rfl) rfl ?_ ?_
          rotate_left 2
          · go_simp
            constructor
            · rfl
            · rfl
          have HT := Aside0.mk (blk_new _ (.cells #[.int .i64 0, .int .u64 0, .int .i64 0, .int .i64 0, .int .u32 0, .slice none 0 0, .slice none 0 0] 56) : (wc2.alloc (.cells #[.int .i64 0, .int .u64 0, .int .i64 0, .int .i64 0, .int .u32 0, .slice none 0 0, .slice none 0 0] 56)).heap[wc2.heap.size]? = _)
          have n0_ := Aside0.mk (blk_alloc HK.out (.cells #[.int .i64 0, .int .u64 0, .int .i64 0, .int .i64 0, .int .u32 0, .slice none 0 0, .slice none 0 0] 56))
          have n1_ := Aside0.mk (below_alloc HB.out (.cells #[.int .i64 0, .int .u64 0, .int .i64 0, .int .i64 0, .int .u32 0, .slice none 0 0, .slice none 0 0] 56))
          clear HK HB
          have HK := n0_
          have HB := n1_
          clear n0_ n1_
          refine hK.out _ _ (((HB.out.cell (World.block_lt_of_cell? _ _ H0.out)).trans H0.out)) (fun hHeld => ?_)
          clear hK K
          refine norm_ (a' := ?_) ?_ ?_
          rotate_left
          · show Act.put _ (some 4) _ = _
            simp only [Act.put, List.setIfInBounds_toArray, List.set_cons_zero, List.set_cons_succ, i64_w, i32_w]
            rfl
          refine one_ (i := 10) (N := some 27) #[true, true, true, true, true, true, true, true, true, true, true, true, false, false, false, true, false] rfl rfl (by kernel_rfl) (by decide) (fun K hK => ?_)
          refine goes_ Try.func133 (by kernel_rfl) rfl #[.slice (some ad0) l0.length c0, .int .i64 11, .int .i64 2] (by rfl) rfl rfl (by first | (simp only [List.map_toArray, List.map_cons, List.map_nil]; done) | (simp only [List.map_toArray, List.map_cons, List.map_nil]; rfl)) ?_
          with_reducible refine (HG3.out _ (Kd.C_below HR.out HB.out)).mono ?_
          rintro e wc3 ⟨rfl, hb⟩
          refine ⟨_, rfl, ?_⟩
          have n0_ := Aside0.mk (blk_below HK.out hb)
          have n1_ := Aside0.mk (below_step HB.out hb)
          have n2_ := Aside0.mk (blk_below HT.out hb)
          clear HK HB HT hb
          have HK := n0_
          have HB := n1_
          have HT := n2_
          clear n2_
          clear n0_ n1_
          refine hK.out _ _ (((HB.out.cell (World.block_lt_of_cell? _ _ H0.out)).trans H0.out)) (fun hHeld => ?_)
          clear hK K
          refine norm_ (a' := ?_) ?_ ?_
          rotate_left
          · show Act.put _ (some 27) _ = _
            simp only [Act.put, List.setIfInBounds_toArray, List.set_cons_zero, List.set_cons_succ, i64_w, i32_w]
            rfl
          refine one_ (i := 12) (N := some 29) #[true, true, true, true, true, true, true, true, true, true, true, true, true, false, false, true, false] rfl rfl (by kernel_rfl) (by decide) (fun K hK => ?_)
          refine goes_ Try.func133 (by kernel_rfl) rfl #[.slice (some ad0) l0.length c0, .int .i64 13, .int .i64 4] (by rfl) rfl rfl (by first | (simp only [List.map_toArray, List.map_cons, List.map_nil]; done) | (simp only [List.map_toArray, List.map_cons, List.map_nil]; rfl)) ?_
          with_reducible refine (HG4.out _ (Kd.C_below HR.out HB.out)).mono ?_
          rintro e wc4 ⟨rfl, hb⟩
          refine ⟨_, rfl, ?_⟩
          have n0_ := Aside0.mk (blk_below HK.out hb)
          have n1_ := Aside0.mk (below_step HB.out hb)
          have n2_ := Aside0.mk (blk_below HT.out hb)
          clear HK HB HT hb
          have HK := n0_
          have HB := n1_
          have HT := n2_
          clear n2_
          clear n0_ n1_
          refine hK.out _ _ (((HB.out.cell (World.block_lt_of_cell? _ _ H0.out)).trans H0.out)) (fun hHeld => ?_)
          clear hK K
          refine norm_ (a' := ?_) ?_ ?_
          rotate_left
          · show Act.put _ (some 29) _ = _
            simp only [Act.put, List.setIfInBounds_toArray, List.set_cons_zero, List.set_cons_succ, i64_w, i32_w]
            rfl
          refine pure_ (i := 13) (N := some 30) (v := ?_) (a' := ?_) #[true, true, true, true, true, true, true, true, true, true, true, true, true, true, false, true, false] rfl rfl (by kernel_rfl) (fun _ _ _ h => h) (Or.inl ⟨by rfl, ?_⟩) ?_ ?_
          rotate_left
          · intro w'
            go_simp
            with_reducible rfl
          rotate_left
          · simp only [Act.put, List.setIfInBounds_toArray, List.set_cons_zero, List.set_cons_succ, i64_w, i32_w]
            rfl
          refine pure_ (i := 14) (N := some 31) (v := ?_) (a' := ?_) #[true, true, true, true, true, true, true, true, true, true, true, true, true, true, true, true, false] rfl rfl (by kernel_rfl) (fun _ _ _ h => h) (Or.inl ⟨by rfl, ?_⟩) ?_ ?_
          rotate_left
          · intro w'
            go_simp
            with_reducible rfl
          rotate_left
          · simp only [Act.put, List.setIfInBounds_toArray, List.set_cons_zero, List.set_cons_succ, i64_w, i32_w]
            rfl
          exact norm_ (by simp only [putAll, Act.put, List.setIfInBounds_toArray, List.set_cons_zero, List.set_cons_succ]) (hCont wc2.heap.size _ ⟨HK.out, HT.out, HB.out, HL.out⟩)
      · skip
        have HL := Aside0.mk (blk_lt HK.out)
        refine value_ (w1 := ?_) (v := ?_) (by rfl) rfl ?_ ?_
        rotate_left 2
        · go_simp
          constructor
          · rfl
          · rfl
        have HT := Aside0.mk (blk_new _ (.cells #[.int .i64 0, .int .u64 0, .int .i64 0, .int .i64 0, .int .u32 0, .slice none 0 0, .slice none 0 0] 56) : (wc1.alloc (.cells #[.int .i64 0, .int .u64 0, .int .i64 0, .int .i64 0, .int .u32 0, .slice none 0 0, .slice none 0 0] 56)).heap[wc1.heap.size]? = _)
        have n0_ := Aside0.mk (blk_alloc HK.out (.cells #[.int .i64 0, .int .u64 0, .int .i64 0, .int .i64 0, .int .u32 0, .slice none 0 0, .slice none 0 0] 56))
        have n1_ := Aside0.mk (below_alloc HB.out (.cells #[.int .i64 0, .int .u64 0, .int .i64 0, .int .i64 0, .int .u32 0, .slice none 0 0, .slice none 0 0] 56))
        clear HK HB
        have HK := n0_
        have HB := n1_
        clear n0_ n1_
        refine hK.out _ _ (((HB.out.cell (World.block_lt_of_cell? _ _ H0.out)).trans H0.out)) (fun hHeld => ?_)
        clear hK K
        refine norm_ (a' := ?_) ?_ ?_
        rotate_left
        · show Act.put _ (some 4) _ = _
          simp only [Act.put, List.setIfInBounds_toArray, List.set_cons_zero, List.set_cons_succ, i64_w, i32_w]
          rfl
        refine one_ (i := 8) (N := some 25) #[true, true, true, true, true, true, true, true, true, true, false, true, false, false, false, true, false] rfl rfl (by kernel_rfl) (by decide) (fun K hK => ?_)
        refine goes_ Try.func133 (by kernel_rfl) rfl #[.slice (some ad0) l0.length c0, .int .i64 9, .int .i64 2] (by rfl) rfl rfl (by first | (simp only [List.map_toArray, List.map_cons, List.map_nil]; done) | (simp only [List.map_toArray, List.map_cons, List.map_nil]; rfl)) ?_
        with_reducible refine (HG2.out _ (Kd.C_below HR.out HB.out)).mono ?_
        rintro e wc2 ⟨rfl, hb⟩
        refine ⟨_, rfl, ?_⟩
        have n0_ := Aside0.mk (blk_below HK.out hb)
        have n1_ := Aside0.mk (below_step HB.out hb)
        have n2_ := Aside0.mk (blk_below HT.out hb)
        clear HK HB HT hb
        have HK := n0_
        have HB := n1_
        have HT := n2_
        clear n2_
        clear n0_ n1_
        refine hK.out _ _ (((HB.out.cell (World.block_lt_of_cell? _ _ H0.out)).trans H0.out)) (fun hHeld => ?_)
        clear hK K
        refine norm_ (a' := ?_) ?_ ?_
        rotate_left
        · show Act.put _ (some 25) _ = _
          simp only [Act.put, List.setIfInBounds_toArray, List.set_cons_zero, List.set_cons_succ, i64_w, i32_w]
          rfl
        refine one_ (i := 10) (N := some 27) #[true, true, true, true, true, true, true, true, true, true, true, true, false, false, false, true, false] rfl rfl (by kernel_rfl) (by decide) (fun K hK => ?_)
        refine goes_ Try.func133 (by kernel_rfl) rfl #[.slice (some ad0) l0.length c0, .int .i64 11, .int .i64 2] (by rfl) rfl rfl (by first | (simp only [List.map_toArray, List.map_cons, List.map_nil]; done) | (simp only [List.map_toArray, List.map_cons, List.map_nil]; rfl)) ?_
        with_reducible refine (HG3.out _ (Kd.C_below HR.out HB.out)).mono ?_
        rintro e wc3 ⟨rfl, hb⟩
        refine ⟨_, rfl, ?_⟩
        have n0_ := Aside0.mk (blk_below HK.out hb)
        have n1_ := Aside0.mk (below_step HB.out hb)
        have n2_ := Aside0.mk (blk_below HT.out hb)
        clear HK HB HT hb
        have HK := n0_
        have HB := n1_
        have HT := n2_
        clear n2_
        clear n0_ n1_
        refine hK.out _ _ (((HB.out.cell (World.block_lt_of_cell? _ _ H0.out)).trans H0.out)) (fun hHeld => ?_)
        clear hK K
        refine norm_ (a' := ?_) ?_ ?_
        rotate_left
        · show Act.put _ (some 27) _ = _
          simp only [Act.put, List.setIfInBounds_toArray, List.set_cons_zero, List.set_cons_succ, i64_w, i32_w]
          rfl
        refine one_ (i := 12) (N := some 29) #[true, true, true, true, true, true, true, true, true, true, true, true, true, false, false, true, false] rfl rfl (by kernel_rfl) (by decide) (fun K hK => ?_)
        refine goes_ Try.func133 (by kernel_rfl) rfl #[.slice (some ad0) l0.length c0, .int .i64 13, .int .i64 4] (by rfl) rfl rfl (by first | (simp only [List.map_toArray, List.map_cons, List.map_nil]; done) | (simp only [List.map_toArray, List.map_cons, List.map_nil]; rfl)) ?_
        with_reducible refine (HG4.out _ (Kd.C_below HR.out HB.out)).mono ?_
        rintro e wc4 ⟨rfl, hb⟩
        refine ⟨_, rfl, ?_⟩
        have n0_ := Aside0.mk (blk_below HK.out hb)
        have n1_ := Aside0.mk (below_step HB.out hb)
        have n2_ := Aside0.mk (blk_below HT.out hb)
        clear HK HB HT hb
        have HK := n0_
        have HB := n1_
        have HT := n2_
        clear n2_
        clear n0_ n1_
        refine hK.out _ _ (((HB.out.cell (World.block_lt_of_cell? _ _ H0.out)).trans H0.out)) (fun hHeld => ?_)
        clear hK K
        refine norm_ (a' := ?_) ?_ ?_
        rotate_left
        · show Act.put _ (some 29) _ = _
          simp only [Act.put, List.setIfInBounds_toArray, List.set_cons_zero, List.set_cons_succ, i64_w, i32_w]
          rfl
        refine pure_ (i := 13) (N := some 30) (v := ?_) (a' := ?_) #[true, true, true, true, true, true, true, true, true, true, true, true, true, true, false, true, false] rfl rfl (by kernel_rfl) (fun _ _ _ h => h) (Or.inl ⟨by rfl, ?_⟩) ?_ ?_
        rotate_left
        · intro w'
          go_simp
          with_reducible rfl
        rotate_left
        · simp only [Act.put, List.setIfInBounds_toArray, List.set_cons_zero, List.set_cons_succ, i64_w, i32_w]
          rfl
        refine pure_ (i := 14) (N := some 31) (v := ?_) (a' := ?_) #[true, true, true, true, true, true, true, true, true, true, true, true, true, true, true, true, false] rfl rfl (by kernel_rfl) (fun _ _ _ h => h) (Or.inl ⟨by rfl, ?_⟩) ?_ ?_
        rotate_left
        · intro w'
          go_simp
          with_reducible rfl
        rotate_left
        · simp only [Act.put, List.setIfInBounds_toArray, List.set_cons_zero, List.set_cons_succ, i64_w, i32_w]
          rfl
        exact norm_ (by simp only [putAll, Act.put, List.setIfInBounds_toArray, List.set_cons_zero, List.set_cons_succ]) (hCont wc1.heap.size _ ⟨HK.out, HT.out, HB.out, HL.out⟩)
    · skip
      have HL := Aside0.mk (blk_lt HK.out)
      refine value_ (w1 := ?_) (v := ?_) (by rfl) rfl ?_ ?_
      rotate_left 2
      · go_simp
        constructor
        · rfl
        · rfl
      have HT := Aside0.mk (blk_new _ (.cells #[.int .i64 0, .int .u64 0, .int .i64 0, .int .i64 0, .int .u32 0, .slice none 0 0, .slice none 0 0] 56) : (W1.alloc (.cells #[.int .i64 0, .int .u64 0, .int .i64 0, .int .i64 0, .int .u32 0, .slice none 0 0, .slice none 0 0] 56)).heap[W1.heap.size]? = _)
      have n0_ := Aside0.mk (blk_alloc HK.out (.cells #[.int .i64 0, .int .u64 0, .int .i64 0, .int .i64 0, .int .u32 0, .slice none 0 0, .slice none 0 0] 56))
      have n1_ := Aside0.mk (below_alloc HB.out (.cells #[.int .i64 0, .int .u64 0, .int .i64 0, .int .i64 0, .int .u32 0, .slice none 0 0, .slice none 0 0] 56))
      clear HK HB
      have HK := n0_
      have HB := n1_
      clear n0_ n1_
      refine hK.out _ _ (((HB.out.cell (World.block_lt_of_cell? _ _ H0.out)).trans H0.out)) (fun hHeld => ?_)
      clear hK K
      refine norm_ (a' := ?_) ?_ ?_
      rotate_left
      · show Act.put _ (some 4) _ = _
        simp only [Act.put, List.setIfInBounds_toArray, List.set_cons_zero, List.set_cons_succ, i64_w, i32_w]
        rfl
      refine one_ (i := 6) (N := some 23) #[true, true, true, true, true, true, true, true, false, true, false, true, false, false, false, true, false] rfl rfl (by kernel_rfl) (by decide) (fun K hK => ?_)
      refine goes_ Try.func132 (by kernel_rfl) rfl #[.slice A1 (mid l0 1 9).length (c0 - 1)] (by rfl) rfl rfl (by first | (simp only [List.map_toArray, List.map_cons, List.map_nil]; done) | (simp only [List.map_toArray, List.map_cons, List.map_nil]; rfl)) ?_
      with_reducible refine (HG1.out _ (Kd.C_below HC1.out HB.out)).mono ?_
      rintro e wc1 ⟨rfl, hb⟩
      refine ⟨_, rfl, ?_⟩
      have n0_ := Aside0.mk (blk_below HK.out hb)
      have n1_ := Aside0.mk (below_step HB.out hb)
      have n2_ := Aside0.mk (blk_below HT.out hb)
      clear HK HB HT hb
      have HK := n0_
      have HB := n1_
      have HT := n2_
      clear n2_
      clear n0_ n1_
      refine hK.out _ _ (((HB.out.cell (World.block_lt_of_cell? _ _ H0.out)).trans H0.out)) (fun hHeld => ?_)
      clear hK K
      refine norm_ (a' := ?_) ?_ ?_
      rotate_left
      · show Act.put _ (some 23) _ = _
        simp only [Act.put, List.setIfInBounds_toArray, List.set_cons_zero, List.set_cons_succ, i64_w, i32_w]
        rfl
      refine one_ (i := 8) (N := some 25) #[true, true, true, true, true, true, true, true, true, true, false, true, false, false, false, true, false] rfl rfl (by kernel_rfl) (by decide) (fun K hK => ?_)
      refine goes_ Try.func133 (by kernel_rfl) rfl #[.slice (some ad0) l0.length c0, .int .i64 9, .int .i64 2] (by rfl) rfl rfl (by first | (simp only [List.map_toArray, List.map_cons, List.map_nil]; done) | (simp only [List.map_toArray, List.map_cons, List.map_nil]; rfl)) ?_
      with_reducible refine (HG2.out _ (Kd.C_below HR.out HB.out)).mono ?_
      rintro e wc2 ⟨rfl, hb⟩
      refine ⟨_, rfl, ?_⟩
      have n0_ := Aside0.mk (blk_below HK.out hb)
      have n1_ := Aside0.mk (below_step HB.out hb)
      have n2_ := Aside0.mk (blk_below HT.out hb)
      clear HK HB HT hb
      have HK := n0_
      have HB := n1_
      have HT := n2_
      clear n2_
      clear n0_ n1_
      refine hK.out _ _ (((HB.out.cell (World.block_lt_of_cell? _ _ H0.out)).trans H0.out)) (fun hHeld => ?_)
      clear hK K
      refine norm_ (a' := ?_) ?_ ?_
      rotate_left
      · show Act.put _ (some 25) _ = _
        simp only [Act.put, List.setIfInBounds_toArray, List.set_cons_zero, List.set_cons_succ, i64_w, i32_w]
        rfl
      refine one_ (i := 10) (N := some 27) #[true, true, true, true, true, true, true, true, true, true, true, true, false, false, false, true, false] rfl rfl (by kernel_rfl) (by decide) (fun K hK => ?_)
      refine goes_ Try.func133 (by kernel_rfl) rfl #[.slice (some ad0) l0.length c0, .int .i64 11, .int .i64 2] (by rfl) rfl rfl (by first | (simp only [List.map_toArray, List.map_cons, List.map_nil]; done) | (simp only [List.map_toArray, List.map_cons, List.map_nil]; rfl)) ?_
      with_reducible refine (HG3.out _ (Kd.C_below HR.out HB.out)).mono ?_
      rintro e wc3 ⟨rfl, hb⟩
      refine ⟨_, rfl, ?_⟩
      have n0_ := Aside0.mk (blk_below HK.out hb)
      have n1_ := Aside0.mk (below_step HB.out hb)
      have n2_ := Aside0.mk (blk_below HT.out hb)
      clear HK HB HT hb
      have HK := n0_
      have HB := n1_
      have HT := n2_
      clear n2_
      clear n0_ n1_
      refine hK.out _ _ (((HB.out.cell (World.block_lt_of_cell? _ _ H0.out)).trans H0.out)) (fun hHeld => ?_)
      clear hK K
      refine norm_ (a' := ?_) ?_ ?_
      rotate_left
      · show Act.put _ (some 27) _ = _
        simp only [Act.put, List.setIfInBounds_toArray, List.set_cons_zero, List.set_cons_succ, i64_w, i32_w]
        rfl
      refine one_ (i := 12) (N := some 29) #[true, true, true, true, true, true, true, true, true, true, true, true, true, false, false, true, false] rfl rfl (by kernel_rfl) (by decide) (fun K hK => ?_)
      refine goes_ Try.func133 (by kernel_rfl) rfl #[.slice (some ad0) l0.length c0, .int .i64 13, .int .i64 4] (by rfl) rfl rfl (by first | (simp only [List.map_toArray, List.map_cons, List.map_nil]; done) | (simp only [List.map_toArray, List.map_cons, List.map_nil]; rfl)) ?_
      with_reducible refine (HG4.out _ (Kd.C_below HR.out HB.out)).mono ?_
      rintro e wc4 ⟨rfl, hb⟩
      refine ⟨_, rfl, ?_⟩
      have n0_ := Aside0.mk (blk_below HK.out hb)
      have n1_ := Aside0.mk (below_step HB.out hb)
      have n2_ := Aside0.mk (blk_below HT.out hb)
      clear HK HB HT hb
      have HK := n0_
      have HB := n1_
      have HT := n2_
      clear n2_
      clear n0_ n1_
      refine hK.out _ _ (((HB.out.cell (World.block_lt_of_cell? _ _ H0.out)).trans H0.out)) (fun hHeld => ?_)
      clear hK K
      refine norm_ (a' := ?_) ?_ ?_
      rotate_left
      · show Act.put _ (some 29) _ = _
        simp only [Act.put, List.setIfInBounds_toArray, List.set_cons_zero, List.set_cons_succ, i64_w, i32_w]
        rfl
      refine pure_ (i := 13) (N := some 30) (v := ?_) (a' := ?_) #[true, true, true, true, true, true, true, true, true, true, true, true, true, true, false, true, false] rfl rfl (by kernel_rfl) (fun _ _ _ h => h) (Or.inl ⟨by rfl, ?_⟩) ?_ ?_
      rotate_left
      · intro w'
        go_simp
        with_reducible rfl
      rotate_left
      · simp only [Act.put, List.setIfInBounds_toArray, List.set_cons_zero, List.set_cons_succ, i64_w, i32_w]
        rfl
      refine pure_ (i := 14) (N := some 31) (v := ?_) (a' := ?_) #[true, true, true, true, true, true, true, true, true, true, true, true, true, true, true, true, false] rfl rfl (by kernel_rfl) (fun _ _ _ h => h) (Or.inl ⟨by rfl, ?_⟩) ?_ ?_
      rotate_left
      · intro w'
        go_simp
        with_reducible rfl
      rotate_left
      · simp only [Act.put, List.setIfInBounds_toArray, List.set_cons_zero, List.set_cons_succ, i64_w, i32_w]
        rfl
      exact norm_ (by simp only [putAll, Act.put, List.setIfInBounds_toArray, List.set_cons_zero, List.set_cons_succ]) (hCont W1.heap.size _ ⟨HK.out, HT.out, HB.out, HL.out⟩)
  rintro T w5 ⟨hk5, ht5, hb5, hl5⟩
  have HK := Aside0.mk hk5
  have HT := Aside0.mk ht5
  have HB := Aside0.mk hb5
  have HL := Aside0.mk hl5
  have hHeld : w5.cell? ad0 = some (.int .u8 b0) := ((HB.out.cell (World.block_lt_of_cell? _ _ H0.out)).trans H0.out)
  clear hk5 ht5 hb5 hl5
  refine norm_ (a' := ?_) ?_ ?_
  rotate_left
  · simp only [putAll, Act.put, List.setIfInBounds_toArray, List.set_cons_zero, List.set_cons_succ]
    rfl
  refine one_ (i := 16) (N := none) #[true, true, true, true, true, true, true, true, true, true, true, true, true, true, true, true, true] rfl rfl (by kernel_rfl) (by decide) (fun K hK => ?_)
  have t0 : w5.cell? ⟨T, 0, none⟩ = some (.int .i64 0) := (blk_cell HT.out 0).trans rfl
  have t1 : w5.cell? ⟨T, 1, none⟩ = some (.int .u64 0) := (blk_cell HT.out 1).trans rfl
  have t2 : w5.cell? ⟨T, 2, none⟩ = some (.int .i64 0) := (blk_cell HT.out 2).trans rfl
  have t3 : w5.cell? ⟨T, 3, none⟩ = some (.int .i64 0) := (blk_cell HT.out 3).trans rfl
  have t4 : w5.cell? ⟨T, 4, none⟩ = some (.int .u32 0) := (blk_cell HT.out 4).trans rfl
  have t5 : w5.cell? ⟨T, 5, none⟩ = some (.slice none 0 0) := (blk_cell HT.out 5).trans rfl
  have t6 : w5.cell? ⟨T, 6, none⟩ = some (.slice none 0 0) := (blk_cell HT.out 6).trans rfl
  have tf0 : w5.frozen? ⟨T, 0, none⟩ = false := blk_frozen HT.out 0
  have tf1 : w5.frozen? ⟨T, 1, none⟩ = false := blk_frozen HT.out 1
  have tf2 : w5.frozen? ⟨T, 2, none⟩ = false := blk_frozen HT.out 2
  have tf3 : w5.frozen? ⟨T, 3, none⟩ = false := blk_frozen HT.out 3
  have tf4 : w5.frozen? ⟨T, 4, none⟩ = false := blk_frozen HT.out 4
  have tf5 : w5.frozen? ⟨T, 5, none⟩ = false := blk_frozen HT.out 5
  have tf6 : w5.frozen? ⟨T, 6, none⟩ = false := blk_frozen HT.out 6
  refine skip_ (w1 := ?_) (by rfl) rfl ?_ ?_
  rotate_left
  · go_simp
    rfl
  clear t0 t1 t2 t3 t4 t5 t6 tf0 tf1 tf2 tf3 tf4 tf5 tf6
  have hne : w.heap.size ≠ T := Nat.ne_of_lt HL.out
  have hle : w.heap.size ≤ T := Nat.le_of_lt HL.out
  have n0_ := Aside0.mk (blk_far (blk_far (blk_far (blk_far (blk_far (blk_far (blk_far HK.out (p := ⟨T, 0, none⟩) hne (.int .i64 (wrap64 b0))) (p := ⟨T, 1, none⟩) hne (.int .u64 v1)) (p := ⟨T, 2, none⟩) hne (.int .i64 v2)) (p := ⟨T, 3, none⟩) hne (.int .i64 v3)) (p := ⟨T, 4, none⟩) hne (.int .u32 (IntKind.u32.wrap v4))) (p := ⟨T, 5, none⟩) hne (.slice none 0 0)) (p := ⟨T, 6, none⟩) hne (.slice none 0 0))
  have n1_ := Aside0.mk ((blk_put (blk_put (blk_put (blk_put (blk_put (blk_put (blk_put HT.out 0 (.int .i64 (wrap64 b0)) rfl) 1 (.int .u64 v1) rfl) 2 (.int .i64 v2) rfl) 3 (.int .i64 v3) rfl) 4 (.int .u32 (IntKind.u32.wrap v4)) rfl) 5 (.slice none 0 0) rfl) 6 (.slice none 0 0) rfl) : _ = some (Obj.cells #[.int .i64 (wrap64 b0), .int .u64 v1, .int .i64 v2, .int .i64 v3, .int .u32 (IntKind.u32.wrap v4), .slice none 0 0, .slice none 0 0] 56 (0, 0)))
  have n2_ := Aside0.mk (((((((HB.out.setCell (p := ⟨T, 0, none⟩) hle (.int .i64 (wrap64 b0))).setCell (p := ⟨T, 1, none⟩) hle (.int .u64 v1)).setCell (p := ⟨T, 2, none⟩) hle (.int .i64 v2)).setCell (p := ⟨T, 3, none⟩) hle (.int .i64 v3)).setCell (p := ⟨T, 4, none⟩) hle (.int .u32 (IntKind.u32.wrap v4))).setCell (p := ⟨T, 5, none⟩) hle (.slice none 0 0)).setCell (p := ⟨T, 6, none⟩) hle (.slice none 0 0))
  clear HK HT HB hne hle
  have HK := n0_
  have HT := n1_
  have HB := n2_
  clear n0_ n1_ n2_
  refine hK.out _ _ (((HB.out.cell (World.block_lt_of_cell? _ _ H0.out)).trans H0.out)) (fun hHeld => ?_)
  clear hK K
  refine done_ (by kernel_rfl) ?_

  clear q1' HG1 HG2 HG3 HG4 HC1 hHeld
  rw [HE1.out, HE4.out] at HT HK HB ⊢
  clear HE1 HE4
  generalize (((((((w5.setCell ⟨T, 0, none⟩ (.int .i64 kd)).setCell ⟨T, 1, none⟩ (.int .u64 v1)).setCell ⟨T, 2, none⟩ (.int .i64 v2)).setCell ⟨T, 3, none⟩ (.int .i64 v3)).setCell ⟨T, 4, none⟩ (.int .u32 vy)).setCell ⟨T, 5, none⟩ (.slice none 0 0)).setCell ⟨T, 6, none⟩ (.slice none 0 0)) = W at HK HT HB ⊢
  have TN : T ≠ w.heap.size := Nat.ne_of_gt HL.out
  have TL : w.heap.size ≤ T := Nat.le_of_lt HL.out
  have kk0 : W.cell? ⟨T, 0, none⟩ = some (.int .i64 kd) := (blk_cell HT.out 0).trans rfl
  have hk1 : ((kd : Int) == 1) = true := beq_iff_eq.mpr hk1_
  have hml : (mid l0 17 (l0.length - 4)).length ≤ l0.length := by unfold mid; rw [List.length_drop, List.length_take]; omega
  obtain ⟨R0, hR0⟩ : ∃ R0, mid l0 17 (l0.length - 4) = R0 := ⟨_, rfl⟩
  rw [hR0] at HC5 HL5 hlen hget hml
  simp only [hR0] at q5'
  have I0 : Aside0 ((∃ v, W.heap[T]? = some (.cells #[.int .i64 kd, .int .u64 v1, .int .i64 v2, .int .i64 v3, .int .u32 vy, v, .slice none 0 0] 56 (0, 0)) ∧ Kd.R (Kd.int .i64) 3 W w.heap.size (fun _ => True) v (SZ.take 0)) ∧ W.heap[w.heap.size]? = some (.cells #[.int .i64 0, .int .u64 0, .int .i64 0, .int .i64 0, .int .u32 0, .slice none 0 0, .slice none 0 0] 56 (0, 0)) ∧ Below w.heap.size w W) := ⟨⟨⟨.slice none 0 0, HT.out, by rw [List.take_zero]; exact Kd.R_nil _ _ _ _ _⟩, HK.out, HB.out⟩⟩
  have HGET := Aside0.mk hget
  have HR0_ := Aside0.mk hR0
  clear hk1_ hget HK HT HB
  go_wp2_with fail
  have hmx2 : SZ.length ≤ 9000000000000 := by omega
  have HLEN := Aside0.mk hlen
  clear hlen hml hbig
  go_loopg [6] SZ.length (fun kq v6 W' => ∃ i : Nat, v6 = .int .i64 ((2 * i : Nat) : Int) ∧ Aside0 (i + kq = SZ.length) ∧ Aside0 ((∃ v, W'.heap[T]? = some (.cells #[.int .i64 kd, .int .u64 v1, .int .i64 v2, .int .i64 v3, .int .u32 vy, v, .slice none 0 0] 56 (0, 0)) ∧ Kd.R (Kd.int .i64) 3 W' w.heap.size (fun _ => True) v (SZ.take i)) ∧ W'.heap[w.heap.size]? = some (.cells #[.int .i64 0, .int .u64 0, .int .i64 0, .int .i64 0, .int .u32 0, .slice none 0 0, .slice none 0 0] 56 (0, 0)) ∧ Below w.heap.size w W'))
  case atStart => exact ⟨0, rfl, ⟨by omega⟩, I0⟩
  case round =>
    clear I0
    obtain ⟨i, rfl, Hi, HI⟩ := hrel
    have hi := Hi.out
    obtain ⟨⟨u, hT, hS⟩, hK, hB⟩ := HI.out
    clear HI
    obtain ⟨x, hx⟩ : ∃ x : Int, x = ((2 * i : Nat) : Int) := ⟨_, rfl⟩
    have hx1 : IntKind.i64.wrap (x + 1) = x + 1 := (i64_w _).trans (by unfold wrap64; omega)
    have hx2 : IntKind.i64.wrap (x + 2) = x + 2 := (i64_w _).trans (by unfold wrap64; omega)
    rw [← hx]
    cases gk with
    | zero =>
      have hc1 : decide (x + 1 < (R0.length : Int)) = false := decide_eq_false (by have := HLEN.out; omega)
      obtain rfl : i = SZ.length := by omega
      clear hx
      rw [List.take_length] at hS
      obtain ⟨A7, c7, e7⟩ := Kd.R_slice hS
      subst e7
      have HK := Aside0.mk hK
      have HT := Aside0.mk hT
      have HSr := Aside0.mk hS
      have HB := Aside0.mk hB
      clear hK hT hS hB
      have k0 : wr.cell? ⟨T, 0, none⟩ = some (.int .i64 kd) := (blk_cell HT.out 0).trans rfl
      have k1 : wr.cell? ⟨T, 1, none⟩ = some (.int .u64 v1) := (blk_cell HT.out 1).trans rfl
      have k2 : wr.cell? ⟨T, 2, none⟩ = some (.int .i64 v2) := (blk_cell HT.out 2).trans rfl
      have k3 : wr.cell? ⟨T, 3, none⟩ = some (.int .i64 v3) := (blk_cell HT.out 3).trans rfl
      have k4 : wr.cell? ⟨T, 4, none⟩ = some (.int .u32 vy) := (blk_cell HT.out 4).trans rfl
      have k5 : wr.cell? ⟨T, 5, none⟩ = some (.slice A7 SZ.length c7) := (blk_cell HT.out 5).trans rfl
      have k6 : wr.cell? ⟨T, 6, none⟩ = some (.slice none 0 0) := (blk_cell HT.out 6).trans rfl
      go_wp2_with fail
      clear k0 k1 k2 k3 k4 k5 k6
      refine (scullerref13_Encode.calls kk kd v1 v2 v3 vy A7 c7 SZ none 0 [] c er wr (Kd.R_reads' HSr.out).2.2 (Kd.R_reads' HSr.out).2.1 (Kd.C_nil _ _) (Nat.le_refl _) HCE.out).mono ?_
      rintro e W7 ⟨vc, rfl, hvc, hb⟩
      obtain ⟨Ac, cc, ec⟩ := Kd.R_slice hvc
      subst ec
      have HX := Aside0.mk hvc
      have n0_ := Aside0.mk (blk_below HK.out hb)
      have n1_ := Aside0.mk (blk_below HT.out hb)
      have n2_ := Aside0.mk (Kd.R_below HSr.out hb)
      have n4_ := Aside0.mk (below_step HB.out hb)
      clear HK HT HSr HB hvc hb
      have HK := n0_
      have HT := n1_
      have HSr := n2_
      have HB := n4_
      clear n0_ n1_ n2_ n4_
      by_cases he : er = 0
      · have he1 : ((er : Int) != 0) = false := bne_eq_false_iff_eq.mpr he
        have he2 : ((er : Int) == 0) = true := beq_iff_eq.mpr he
        have hr := HRES.out
        rw [if_pos he] at hr
        clear he
        have hs1 := Kd.C_string (P := Try.prog) (A := Ac) (c := cc) Try.underlying22 Try.underlying5 Try.underlying9 (Kd.R_reads' HX.out).2.2
        have hs2 := Kd.C_string (P := Try.prog) (A := some ad0) (c := c0) Try.underlying22 Try.underlying5 Try.underlying9 (Kd.C_below HR.out HB.out)
        have z0 : W7.cell? ⟨w.heap.size, 0, none⟩ = some (.int .i64 0) := (blk_cell HK.out 0).trans rfl
        have z1 : W7.cell? ⟨w.heap.size, 1, none⟩ = some (.int .u64 0) := (blk_cell HK.out 1).trans rfl
        have z2 : W7.cell? ⟨w.heap.size, 2, none⟩ = some (.int .i64 0) := (blk_cell HK.out 2).trans rfl
        have z3 : W7.cell? ⟨w.heap.size, 3, none⟩ = some (.int .i64 0) := (blk_cell HK.out 3).trans rfl
        have z4 : W7.cell? ⟨w.heap.size, 4, none⟩ = some (.int .u32 0) := (blk_cell HK.out 4).trans rfl
        have z5 : W7.cell? ⟨w.heap.size, 5, none⟩ = some (.slice none 0 0) := (blk_cell HK.out 5).trans rfl
        have z6 : W7.cell? ⟨w.heap.size, 6, none⟩ = some (.slice none 0 0) := (blk_cell HK.out 6).trans rfl
        have zf0 : W7.frozen? ⟨w.heap.size, 0, none⟩ = false := blk_frozen HK.out 0
        have zf1 : W7.frozen? ⟨w.heap.size, 1, none⟩ = false := blk_frozen HK.out 1
        have zf2 : W7.frozen? ⟨w.heap.size, 2, none⟩ = false := blk_frozen HK.out 2
        have zf3 : W7.frozen? ⟨w.heap.size, 3, none⟩ = false := blk_frozen HK.out 3
        have zf4 : W7.frozen? ⟨w.heap.size, 4, none⟩ = false := blk_frozen HK.out 4
        have zf5 : W7.frozen? ⟨w.heap.size, 5, none⟩ = false := blk_frozen HK.out 5
        have zf6 : W7.frozen? ⟨w.heap.size, 6, none⟩ = false := blk_frozen HK.out 6
        have k0 : W7.cell? ⟨T, 0, none⟩ = some (.int .i64 kd) := (blk_cell HT.out 0).trans rfl
        have k1 : W7.cell? ⟨T, 1, none⟩ = some (.int .u64 v1) := (blk_cell HT.out 1).trans rfl
        have k2 : W7.cell? ⟨T, 2, none⟩ = some (.int .i64 v2) := (blk_cell HT.out 2).trans rfl
        have k3 : W7.cell? ⟨T, 3, none⟩ = some (.int .i64 v3) := (blk_cell HT.out 3).trans rfl
        have k4 : W7.cell? ⟨T, 4, none⟩ = some (.int .u32 vy) := (blk_cell HT.out 4).trans rfl
        have k5 : W7.cell? ⟨T, 5, none⟩ = some (.slice A7 SZ.length c7) := (blk_cell HT.out 5).trans rfl
        have k6 : W7.cell? ⟨T, 6, none⟩ = some (.slice none 0 0) := (blk_cell HT.out 6).trans rfl
        have hq := HQ.out
        cases q with
        | true =>
          have hq2 : ((strOfNums c).toList != (strOfNums l0).toList) = false := by rw [bne, hq]; rfl
          rw [if_pos rfl] at hr
          simp only [Option.some.injEq, Prod.mk.injEq] at hr
          obtain ⟨rfl, rfl, rfl, rfl, rfl, rfl, rfl, rfl⟩ := hr
          go_wp2
          exact bodyPost_ret (v := .tuple #[.agg #[.int .i64 kd, .int .u64 v1, .int .i64 v2, .int .i64 v3, .int .u32 vy, .slice A7 SZ.length c7, .slice none 0 0], .int .i64 0]) (by simp [results, Try.results89, go_sem, z0, z1, z2, z3, z4, z5, z6]) rfl ⟨_, _, _, rfl, (Kd.R_mono (Kd.R_far (p := ⟨w.heap.size, 6, none⟩) (Kd.R_far (p := ⟨w.heap.size, 5, none⟩) (Kd.R_far (p := ⟨w.heap.size, 4, none⟩) (Kd.R_far (p := ⟨w.heap.size, 3, none⟩) (Kd.R_far (p := ⟨w.heap.size, 2, none⟩) (Kd.R_far (p := ⟨w.heap.size, 1, none⟩) (Kd.R_far (p := ⟨w.heap.size, 0, none⟩) (Kd.R_types HSr.out HK.out (by decide)) (fun _ hk => hk.2) (.int .i64 kd)) (fun _ hk => hk.2) (.int .u64 v1)) (fun _ hk => hk.2) (.int .i64 v2)) (fun _ hk => hk.2) (.int .i64 v3)) (fun _ hk => hk.2) (.int .u32 vy)) (fun _ hk => hk.2) (.slice A7 SZ.length c7)) (fun _ hk => hk.2) (.slice none 0 0)) (fun _ _ => trivial)), (Kd.C_below (Kd.C_nil _ _) (by (repeat (first | (with_reducible exact HB.out) | refine below_set ?_ (Nat.le_refl _))))), (Nat.le_refl _), by (repeat (first | (with_reducible exact HB.out) | refine below_set ?_ (Nat.le_refl _)))⟩
        | false =>
          have hq2 : ((strOfNums c).toList != (strOfNums l0).toList) = true := by rw [bne, hq]; rfl
          rw [if_neg (by simp)] at hr
          simp only [Option.some.injEq, Prod.mk.injEq] at hr
          obtain ⟨rfl, rfl, rfl, rfl, rfl, rfl, rfl, rfl⟩ := hr
          go_wp2
          exact bodyPost_ret (v := .tuple #[.agg #[.int .i64 0, .int .u64 0, .int .i64 0, .int .i64 0, .int .u32 0, .slice none 0 0, .slice none 0 0], .int .i64 11]) (by simp [results, Try.results89, go_sem, z0, z1, z2, z3, z4, z5, z6]) rfl ⟨_, _, _, rfl, Kd.R_nil _ _ _ _ _, Kd.C_nil _ _, Nat.le_refl _, by (repeat (first | (with_reducible exact HB.out) | refine below_set ?_ (Nat.le_refl _)))⟩
      · have he1 : ((er : Int) != 0) = true := bne_iff_ne.mpr he
        have he2 : ((er : Int) == 0) = false := beq_eq_false_iff_ne.mpr he
        have hr := HRES.out
        rw [if_neg he] at hr
        clear he
        simp only [Option.some.injEq, Prod.mk.injEq] at hr
        obtain ⟨rfl, rfl, rfl, rfl, rfl, rfl, rfl, rfl⟩ := hr
        have z0 : W7.cell? ⟨w.heap.size, 0, none⟩ = some (.int .i64 0) := (blk_cell HK.out 0).trans rfl
        have z1 : W7.cell? ⟨w.heap.size, 1, none⟩ = some (.int .u64 0) := (blk_cell HK.out 1).trans rfl
        have z2 : W7.cell? ⟨w.heap.size, 2, none⟩ = some (.int .i64 0) := (blk_cell HK.out 2).trans rfl
        have z3 : W7.cell? ⟨w.heap.size, 3, none⟩ = some (.int .i64 0) := (blk_cell HK.out 3).trans rfl
        have z4 : W7.cell? ⟨w.heap.size, 4, none⟩ = some (.int .u32 0) := (blk_cell HK.out 4).trans rfl
        have z5 : W7.cell? ⟨w.heap.size, 5, none⟩ = some (.slice none 0 0) := (blk_cell HK.out 5).trans rfl
        have z6 : W7.cell? ⟨w.heap.size, 6, none⟩ = some (.slice none 0 0) := (blk_cell HK.out 6).trans rfl
        have zf0 : W7.frozen? ⟨w.heap.size, 0, none⟩ = false := blk_frozen HK.out 0
        have zf1 : W7.frozen? ⟨w.heap.size, 1, none⟩ = false := blk_frozen HK.out 1
        have zf2 : W7.frozen? ⟨w.heap.size, 2, none⟩ = false := blk_frozen HK.out 2
        have zf3 : W7.frozen? ⟨w.heap.size, 3, none⟩ = false := blk_frozen HK.out 3
        have zf4 : W7.frozen? ⟨w.heap.size, 4, none⟩ = false := blk_frozen HK.out 4
        have zf5 : W7.frozen? ⟨w.heap.size, 5, none⟩ = false := blk_frozen HK.out 5
        have zf6 : W7.frozen? ⟨w.heap.size, 6, none⟩ = false := blk_frozen HK.out 6
        go_wp2
        exact bodyPost_ret (v := .tuple #[.agg #[.int .i64 0, .int .u64 0, .int .i64 0, .int .i64 0, .int .u32 0, .slice none 0 0, .slice none 0 0], .int .i64 11]) (by simp [results, Try.results89, go_sem, z0, z1, z2, z3, z4, z5, z6]) rfl ⟨_, _, _, rfl, Kd.R_nil _ _ _ _ _, Kd.C_nil _ _, Nat.le_refl _, by (repeat (first | (with_reducible exact HB.out) | refine below_set ?_ (Nat.le_refl _)))⟩
    | succ kq =>
      have hc1 : decide (x + 1 < (R0.length : Int)) = true := decide_eq_true (by have := HLEN.out; omega)
      obtain ⟨va, hva⟩ : ∃ va, SZ.getD i 0 = va := ⟨_, rfl⟩
      have hg := HGET.out i (by omega)
      rw [← hx, hva] at hg
      have HGX := Aside0.mk (fun (W : World) (hc : Kd.C (Kd.int .u8) W A5 R0.length R0) => scullerref13_get.calls kk A5 (c0 - 17) R0 x 2 va W hc HL5.out hg)
      obtain ⟨xs, hxs⟩ : ∃ xs, SZ.take i = xs := ⟨_, rfl⟩
      obtain ⟨ys, hys⟩ : ∃ ys, SZ.take (i + 1) = ys := ⟨_, rfl⟩
      have HYS_ := Aside0.mk hys
      have HYS := Aside0.mk (show xs ++ [va] = ys by
        rw [← hys]
        have hil : i < SZ.length := by omega
        rw [List.take_succ_eq_append_getElem hil, hxs, ← hva, List.getD_eq_getElem?_getD, List.getElem?_eq_getElem hil]; rfl)
      have HXL := Aside0.mk (show xs.length < 9000000000000 by rw [← hxs, List.length_take]; omega)
      rw [hxs] at hS
      have HX_ := Aside0.mk hx
      have HT1 := Aside0.mk (blk_drew hT)
      have HK1 := Aside0.mk (blk_drew hK)
      have HS1 := Aside0.mk (Kd.R_drew hS)
      have HB1 := Aside0.mk (below_drew1 hB)
      clear hT hK hS hB hg hva hxs hx hys
      go_wp2_with fail
      refine start_ (n := 9) (S := fun w' => w'.cell? ⟨T, 5, none⟩ = some u) (ds := [6, 8]) #[false, false, false, false, false, false, false, false, false] (by kernel_rfl) rfl rfl (((blk_cell HT1.out 5).trans rfl)) (fun hHeld => ?_)
      refine pure_ (i := 0) (N := some 47) (v := ?_) (a' := ?_) #[true, false, false, false, false, false, false, false, false] rfl rfl (by kernel_rfl) (fun _ _ _ h => h) (Or.inl ⟨by rfl, ?_⟩) ?_ ?_
      rotate_left
      · intro w'
        go_simp
        with_reducible rfl
      rotate_left
      · simp only [Act.put, List.setIfInBounds_toArray, List.set_cons_zero, List.set_cons_succ, i64_w, i32_w]
        rfl
      refine pure_ (i := 2) (N := some 49) (v := ?_) (a' := ?_) #[true, false, true, false, false, false, false, false, false] rfl rfl (by kernel_rfl) (fun _ _ _ h => h) (Or.inl ⟨by rfl, ?_⟩) ?_ ?_
      rotate_left
      · intro w'
        go_simp
        with_reducible rfl
      rotate_left
      · simp only [Act.put, List.setIfInBounds_toArray, List.set_cons_zero, List.set_cons_succ, i64_w, i32_w]
        rfl
      refine pure_ (i := 3) (N := some 50) (v := ?_) (a' := ?_) #[true, false, true, true, false, false, false, false, false] rfl rfl (by kernel_rfl) (fun _ _ _ h => h) (Or.inl ⟨by rfl, ?_⟩) ?_ ?_
      rotate_left
      · intro w'
        go_simp
        with_reducible rfl
      rotate_left
      · simp only [Act.put, List.setIfInBounds_toArray, List.set_cons_zero, List.set_cons_succ, i64_w, i32_w]
        rfl
      refine take_ (i := 1) (N := some 48) (v := ?_) (a' := ?_) #[true, true, true, true, false, false, false, false, false] rfl rfl (by kernel_rfl) (fun _ _ _ h => h) (Or.inl ⟨by rfl, ?_⟩) hHeld ?_ ?_
      rotate_left
      · intro w' s0
        go_simp
        with_reducible rfl
      rotate_left
      · simp only [Act.put, List.setIfInBounds_toArray, List.set_cons_zero, List.set_cons_succ, i64_w, i32_w]
        rfl
      refine one_ (i := 4) (N := some 51) #[true, true, true, true, true, false, false, false, false] rfl rfl (by kernel_rfl) (by decide) (fun K hK => ?_)
      refine goes_ Try.func133 (by kernel_rfl) rfl #[.slice A5 R0.length (c0 - 17), .int .i64 x, .int .i64 2] (by rfl) rfl rfl (by first | (simp only [List.map_toArray, List.map_cons, List.map_nil]; done) | (simp only [List.map_toArray, List.map_cons, List.map_nil]; rfl)) ?_
      with_reducible refine (HGX.out _ (Kd.C_below HC5.out HB1.out)).mono ?_
      rintro e W3 ⟨rfl, hb⟩
      refine ⟨_, rfl, ?_⟩
      have HT3 := Aside0.mk (blk_below HT1.out hb)
      have HK3 := Aside0.mk (blk_below HK1.out hb)
      have HS3 := Aside0.mk (Kd.R_below HS1.out hb)
      have HB3 := Aside0.mk (below_step HB1.out hb)
      clear hb HT1 HK1 HS1 HB1
      refine hK.out _ _ (((blk_cell HT3.out 5).trans rfl)) (fun hHeld => ?_)
      clear hK K
      refine norm_ (a' := ?_) ?_ ?_
      rotate_left
      · show Act.put _ (some 51) _ = _
        simp only [Act.put, List.setIfInBounds_toArray, List.set_cons_zero, List.set_cons_succ, i64_w, i32_w]
        rfl
      refine one_ (i := 5) (N := some 52) #[true, true, true, true, true, true, false, false, false] rfl rfl (by kernel_rfl) (by decide) (fun K hK => ?_)
      refine value_ (w1 := ?_) (v := ?_) (by rfl) rfl ?_ ?_
      rotate_left 2
      · go_simp
        constructor
        · rfl
        · rfl
      refine hK.out _ _ (((blk_cell (blk_alloc HT3.out _) 5).trans rfl)) (fun hHeld => ?_)
      clear hK K
      refine norm_ (a' := ?_) ?_ ?_
      rotate_left
      · show Act.put _ (some 52) _ = _
        simp only [Act.put, List.setIfInBounds_toArray, List.set_cons_zero, List.set_cons_succ, i64_w, i32_w]
        rfl
      refine last_ (i := 6) (N := some 53) #[true, true, true, true, true, true, true, false, false] rfl rfl (by kernel_rfl) (by decide) (fun K hK => ?_)
      refine Kd.R_append_step (Kd.int .i64) (w0 := w) w.heap.size (by rfl) (.tmp 48) (.tmp 52) 42 3 (.int .i64 0) 8 rfl Try.underlying42 info3 rfl (by decide) (by omega) u xs va [.int .i64 va] (fun _ => True) (fun _ => False) rfl rfl ?aP (fun _ hk => hk.elim) ?aF ?aO ?aB ?aS ?aL ?_
      (case aP => exact rfl)
      (case aB => exact HB3.out)
      (case aF => exact fun _ _ => trivial)
      (case aO => exact HS3.out)
      (case aS => exact HB3.out.size)
      (case aL => have := HXL.out; omega)
      intro v7 W7 ho hb hg hat
      rw [HYS.out] at ho
      have HO7 := Aside0.mk ho
      have HB7 := Aside0.mk hb
      have HT7 := Aside0.mk (blk_grown HT3.out hg (Kd.R_ne HS3.out HT3.out (by decide)))
      have HK7 := Aside0.mk (blk_grown HK3.out hg (Kd.R_ne HS3.out HK3.out (by decide)))
      clear ho hb hg hat
      obtain ⟨A7, c7, e7⟩ := Kd.R_slice HO7.out
      subst e7
      have t5 : W7.cell? ⟨T, 5, none⟩ = some u := (blk_cell HT7.out 5).trans rfl
      have tf5 : W7.frozen? ⟨T, 5, none⟩ = false := blk_frozen HT7.out 5
      refine hK.out _ _ ?_
      clear hK K
      refine norm_ (a' := ?_) ?_ ?_
      rotate_left
      · show Act.put _ (some 53) _ = _
        simp only [Act.put, List.setIfInBounds_toArray, List.set_cons_zero, List.set_cons_succ, i64_w, i32_w]
        rfl
      refine pure_ (i := 7) (N := some 54) (v := ?_) (a' := ?_) #[true, true, true, true, true, true, true, true, false] rfl rfl (by kernel_rfl) (fun _ _ _ h => h) (Or.inl ⟨by rfl, ?_⟩) ?_ ?_
      rotate_left
      · intro w'
        go_simp
        with_reducible rfl
      rotate_left
      · simp only [Act.put, List.setIfInBounds_toArray, List.set_cons_zero, List.set_cons_succ, i64_w, i32_w]
        rfl
      refine last_ (i := 8) (N := none) #[true, true, true, true, true, true, true, true, true] rfl rfl (by kernel_rfl) (by decide) (fun K hK => ?_)
      refine skip_ (w1 := ?_) (by rfl) rfl ?_ ?_
      rotate_left
      · go_simp
        rfl
      refine hK.out _ _ ?_
      clear hK K
      refine done_ (by kernel_rfl) ?_

      have nT := blk_put HT7.out 5 (.slice A7 ys.length c7) rfl
      have nK := blk_far HK7.out (p := ⟨T, 5, none⟩) (Ne.symm TN) (.slice A7 ys.length c7)
      have nO := Kd.R_mono (Kd.R_far (p := ⟨T, 5, none⟩) (Kd.R_types HO7.out HT7.out (by decide)) (fun _ hk => hk.2) (.slice A7 ys.length c7)) (fun _ _ => trivial)
      have nB := HB7.out.setCell (p := ⟨T, 5, none⟩) TL (.slice A7 ys.length c7)
      go_wp2
      go_roundg kq
      case measure => omega
      case rel =>
        refine ⟨i + 1, ?_, ⟨by omega⟩, ⟨⟨.slice A7 ys.length c7, by first | exact nT | exact blk_drew nT, by rw [HYS_.out]; exact nO⟩, by first | exact nK | exact blk_drew nK, by first | exact nB | exact below_drew1 nB⟩⟩
        have := HX_.out
        congr 1
        omega
/-- the sizes of a datagram's rest, two bytes each, by the document's word -/
def rsizes (kk : Nat) (rest : List Int) : Nat → Option (List Int)
  | 0 => some []
  | m + 1 => (rsizes kk rest m).bind fun l => (scullerref13_get.f kk rest ((2 * m : Nat) : Int) 2).bind fun x => some (l ++ [x])
theorem rsizes_some (kk : Nat) (rest : List Int) : ∀ (m : Nat) (ss : List Int), rsizes kk rest m = some ss → ss.length = m ∧ ∀ j, j < m → scullerref13_get.f kk rest ((2 * j : Nat) : Int) 2 = some (ss.getD j 0) := by
  intro m
  induction m with
  | zero => intro ss h; cases h; exact ⟨rfl, fun j hj => by omega⟩
  | succ m ih =>
    intro ss h
    rw [rsizes] at h
    obtain ⟨l, hl, h⟩ := Option.bind_eq_some_iff.mp h
    obtain ⟨x, hx, h⟩ := Option.bind_eq_some_iff.mp h
    obtain rfl := Option.some.inj h
    obtain ⟨h1, h2⟩ := ih l hl
    refine ⟨by rw [List.length_append, h1]; rfl, fun j hj => ?_⟩
    by_cases hjm : j < m
    · rw [h2 j hjm]
      simp [List.getD_eq_getElem?_getD, List.getElem?_append_left (show j < l.length by omega)]
    · obtain rfl : j = m := by omega
      rw [hx]
      simp [List.getD_eq_getElem?_getD, h1]
/-- What the document's Parse computes. -/
def refParse (kk : Nat) (l : List Int) : Option (Int × Int × Int × Int × Int × List Int × List Int × Int) :=
  if 17592186044416 ≤ l.length then none else if (l.length : Int) < 21 then some (0, 0, 0, 0, 0, [], [], 10) else
  (scullerref02_Right.f kk l).bind fun ok => if ok = true then
    (scullerref01_Get.f kk (mid l 1 9)).bind fun v1 => (scullerref13_get.f kk l 9 2).bind fun v2 => (scullerref13_get.f kk l 11 2).bind fun v3 => (scullerref13_get.f kk l 13 4).bind fun v4 =>
      (if wrap64 (rd l 0) = 1 then rsizes kk (mid l 17 (l.length - 4)) ((mid l 17 (l.length - 4)).length / 2) else some []).bind fun ss =>
        (scullerref13_Encode.f kk (wrap64 (rd l 0)) v1 v2 v3 (IntKind.u32.wrap v4) ss (if wrap64 (rd l 0) = 1 then [] else mid l 17 (l.length - 4))).bind fun ce =>
          if ce.2 = 0 then (if ((strOfNums ce.1).toList == (strOfNums l).toList) = true then some (wrap64 (rd l 0), v1, v2, v3, IntKind.u32.wrap v4, ss, (if wrap64 (rd l 0) = 1 then [] else mid l 17 (l.length - 4)), 0) else some (0, 0, 0, 0, 0, [], [], 11)) else some (0, 0, 0, 0, 0, [], [], 11)
  else some (0, 0, 0, 0, 0, [], [], 12)
theorem refParse_calls (kk : Nat) (A0 : Option Addr) (c0 : Nat) (l0 : List Int) (r0 r1 r2 r3 r4 : Int) (r5 r6 : List Int) (r7 : Int) (w : World) (hr0 : Kd.C (Kd.int .u8) w A0 l0.length l0) (hc0 : l0.length ≤ c0) (h : refParse kk l0 = some (r0, r1, r2, r3, r4, r5, r6, r7)) :
    Calls Try.prog 89 #[.slice A0 l0.length c0] w fun e w' => ∃ (v5_ : Value) (Ab : Option Addr) (cb : Nat), e = .returned (.tuple #[.agg #[.int .i64 r0, .int .u64 r1, .int .i64 r2, .int .i64 r3, .int .u32 r4, v5_, .slice Ab r6.length cb], .int .i64 r7]) ∧ Kd.R (Kd.int .i64) 3 w' w.heap.size (fun _ => True) v5_ r5 ∧ Kd.C (Kd.int .u8) w' Ab r6.length r6 ∧ r6.length ≤ cb ∧ Below w.heap.size w w' := by
  unfold refParse at h
  by_cases hbig : 17592186044416 ≤ l0.length
  · rw [if_pos hbig] at h; cases h
  rw [if_neg hbig] at h
  by_cases h21 : (l0.length : Int) < 21
  · rw [if_pos h21] at h
    simp only [Option.some.injEq, Prod.mk.injEq] at h
    obtain ⟨rfl, rfl, rfl, rfl, rfl, rfl, rfl, rfl⟩ := h
    exact (rparse_short A0 c0 l0 w h21).mono fun e w' ⟨he, hb⟩ => ⟨_, _, _, he, Kd.R_nil _ _ _ _ _, Kd.C_nil _ _, Nat.le_refl _, hb⟩
  rw [if_neg h21] at h
  obtain ⟨ok, hok, h⟩ := Option.bind_eq_some_iff.mp h
  cases ok with
  | false =>
    rw [if_neg (by simp)] at h
    simp only [Option.some.injEq, Prod.mk.injEq] at h
    obtain ⟨rfl, rfl, rfl, rfl, rfl, rfl, rfl, rfl⟩ := h
    exact (rparse_sum kk A0 c0 l0 w h21 hr0 hc0 hok).mono fun e w' ⟨he, hb⟩ => ⟨_, _, _, he, Kd.R_nil _ _ _ _ _, Kd.C_nil _ _, Nat.le_refl _, hb⟩
  | true =>
    rw [if_pos rfl] at h
    obtain ⟨v1, e1, h⟩ := Option.bind_eq_some_iff.mp h
    obtain ⟨v2, e2, h⟩ := Option.bind_eq_some_iff.mp h
    obtain ⟨v3, e3, h⟩ := Option.bind_eq_some_iff.mp h
    obtain ⟨v4, e4, h⟩ := Option.bind_eq_some_iff.mp h
    obtain ⟨ss, hss, h⟩ := Option.bind_eq_some_iff.mp h
    obtain ⟨⟨c, er⟩, hce, h⟩ := Option.bind_eq_some_iff.mp h
    by_cases hk1 : wrap64 (rd l0 0) = 1
    · rw [if_pos hk1] at hss hce h
      obtain ⟨hl, hg⟩ := rsizes_some kk _ _ ss hss
      exact rparse_offer kk A0 c0 l0 w h21 hr0 hc0 hok _ _ _ _ _ rfl e1 e2 e3 e4 _ _ rfl rfl hk1 ss (by omega) hl (fun j hj => hg j (by omega)) c er _ hce rfl r0 r1 r2 r3 r4 r5 r6 r7 h
    · rw [if_neg hk1] at hss hce h
      obtain rfl := Option.some.inj hss
      exact rparse_other kk A0 c0 l0 w h21 hr0 hc0 hok _ _ _ _ _ rfl e1 e2 e3 e4 _ _ rfl rfl hk1 c er _ hce rfl r0 r1 r2 r3 r4 r5 r6 r7 h
def scullerref13_Parse.f (k : Nat) (l : List Int) : Option (Int × Int × Int × Int × Int × List Int × List Int × Int) := refParse k l
theorem scullerref13_Parse.calls (k : Nat) (A0 : Option Addr) (c0 : Nat) (l0 : List Int) (r0 r1 r2 r3 r4 : Int) (r5 r6 : List Int) (r7 : Int) (w : World) (hr0 : Kd.C (Kd.int .u8) w A0 l0.length l0) (hc0 : l0.length ≤ c0) (h : scullerref13_Parse.f k l0 = some (r0, r1, r2, r3, r4, r5, r6, r7)) :
    Calls Try.prog 89 #[.slice A0 l0.length c0] w fun e w' => ∃ (v5_ : Value) (Ab : Option Addr) (cb : Nat), e = .returned (.tuple #[.agg #[.int .i64 r0, .int .u64 r1, .int .i64 r2, .int .i64 r3, .int .u32 r4, v5_, .slice Ab r6.length cb], .int .i64 r7]) ∧ Kd.R (Kd.int .i64) 3 w' w.heap.size (fun _ => True) v5_ r5 ∧ Kd.C (Kd.int .u8) w' Ab r6.length r6 ∧ r6.length ≤ cb ∧ Below w.heap.size w w' :=
  refParse_calls k A0 c0 l0 r0 r1 r2 r3 r4 r5 r6 r7 w hr0 hc0 h
end Go.Proofs.Ytliohoalackhiaa.I
