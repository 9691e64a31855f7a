/- Written by a program of this repo (wip/tools/gprint.py): what functions of the Go program compute, the proofs that they do, and the rows of statements. Conditions: those in each theorem. -/
import Derived.Test.YtliohoalackhiaaZIx0
import Derived.Test.YtliohoalackhiaaZIx11
import Derived.Test.YtliohoalackhiaaZIgPackE
import Derived.Test.YtliohoalackhiaaZW
namespace Go.Proofs.Ytliohoalackhiaa.I
open Go.RowKit Go.Proofs.YtliohoalackhiaaW.PrintWords Go.Proofs.YtliohoalackhiaaW.PrintLast Go.Proofs.YtliohoalackhiaaW.PrintMore
attribute [local go_sem] max2_int min2_int max_two min_two max_three min_three max_four min_four   -- for this text's walks alone
set_option linter.unusedVariables false
set_option linter.unusedSimpArgs false
def scullerlaw13_encodes.f (k : Nat) (a0_0 : Int) (a0_1 : Int) (a0_2 : Int) (a0_3 : Int) (a0_4 : Int) (l0_5 : List Int) (l0_6 : List Int) : Option (Bool) := (pack_Encode.f k a0_0 a0_1 a0_2 a0_3 a0_4 l0_5 l0_6).bind fun bt222 => ((scullerref13_Encode.f k a0_0 a0_1 a0_2 a0_3 a0_4 l0_5 l0_6).bind fun bt226 => (if (strOfNums bt222.1).toList = (strOfNums bt226.1).toList then (some ((wrap64 (bt222.2)) == bt226.2)) else (some false)))
set_option maxHeartbeats 8000000 in
set_option maxRecDepth 100000 in
theorem scullerlaw13_encodes.calls (k : Nat) (a0_0 : Int) (a0_1 : Int) (a0_2 : Int) (a0_3 : Int) (a0_4 : Int) (A0_5 : Option Addr) (c0_5 : Nat) (l0_5 : List Int) (A0_6 : Option Addr) (c0_6 : Nat) (l0_6 : List Int) (r : Bool) (w : World) (hr0_5 : Kd.C (Kd.int .i64) w A0_5 l0_5.length l0_5) (hc0_5 : l0_5.length ≤ c0_5) (hr0_6 : Kd.C (Kd.int .u8) w A0_6 l0_6.length l0_6) (hc0_6 : l0_6.length ≤ c0_6) (h : scullerlaw13_encodes.f k a0_0 a0_1 a0_2 a0_3 a0_4 l0_5 l0_6 = some r) :
    Calls Try.prog 34 #[.agg #[.int .i64 a0_0, .int .u64 a0_1, .int .i64 a0_2, .int .i64 a0_3, .int .u32 a0_4, .slice A0_5 l0_5.length c0_5, .slice A0_6 l0_6.length c0_6]] w fun e w' => e = .returned (.bool r) ∧ Below w.heap.size w w' := by
  have hu56 := Try.underlying56
  have HR0_5 := Aside0.mk hr0_5
  have HC0_5 := Aside0.mk hc0_5
  clear hr0_5 hc0_5
  have HR0_6 := Aside0.mk hr0_6
  have HC0_6 := Aside0.mk hc0_6
  clear hr0_6 hc0_6
  have HB := Aside0.mk (Below.refl w.heap.size w)
  have H : ((pack_Encode.f k a0_0 a0_1 a0_2 a0_3 a0_4 l0_5 l0_6).bind fun bt222 => ((scullerref13_Encode.f k a0_0 a0_1 a0_2 a0_3 a0_4 l0_5 l0_6).bind fun bt226 => (if (strOfNums bt222.1).toList = (strOfNums bt226.1).toList then (some ((wrap64 (bt222.2)) == bt226.2)) else (some false)))) = some r := h
  clear h
  replace H := Option.bind_eq_some_iff.mp H
  obtain ⟨⟨t222, t225⟩, A20, H⟩ := H
  replace H : ((scullerref13_Encode.f k a0_0 a0_1 a0_2 a0_3 a0_4 l0_5 l0_6).bind fun bt226 => (if (strOfNums t222).toList = (strOfNums bt226.1).toList then (some ((wrap64 (t225)) == bt226.2)) else (some false))) = some r := H
  have A2 := Aside0.mk A20
  clear A20
  replace H := Option.bind_eq_some_iff.mp H
  obtain ⟨⟨t226, t229⟩, A30, H⟩ := H
  replace H : (if (strOfNums t222).toList = (strOfNums t226).toList then (some ((wrap64 (t225)) == t229)) else (some false)) = some r := H
  have A3 := Aside0.mk A30
  clear A30
  by_cases c4 : (strOfNums t222).toList = (strOfNums t226).toList
  · rw [if_pos c4] at H
    have c4b0 : ((strOfNums t222).toList == (strOfNums t226).toList) = true := beq_iff_eq.mpr c4
    have c4b1 : ((strOfNums t222).toList != (strOfNums t226).toList) = false := bne_eq_false_iff_eq.mpr c4
    clear c4
    obtain rfl := Option.some.inj H
    go_enter Try.func34, Try.ntmps34
    go_wp2_with (first | ((with_reducible refine gate_dst (N := 1) rfl ?_); refine box_event ?hg (N := 1) ?hd (cs := #[.int .i64 a0_0, .int .u64 a0_1, .int .i64 a0_2, .int .i64 a0_3, .int .u32 a0_4, .slice A0_5 l0_5.length c0_5, .slice A0_6 l0_6.length c0_6]) (t := 56) ?hr ?_; (case hd => rfl); (case hg => rfl); (case hr => first | (go_simp; done) | (go_simp; rfl)); intro gb221 hg w5 hbox hb; have n0_ := Aside0.mk (below_step (Far.Bb HB.out) hb); have n1_ := Aside0.mk (hbox); have n2_ := Aside0.mk ((by rw [hg]; exact (below_size (Far.Bb HB.out)) : w.heap.size ≤ gb221)); have n3_ := Aside0.mk ((by rw [hg]; exact (below_size (Far.Bb HB.out)) : w.heap.size ≤ gb221)); clear HB; have HB := n0_; have BK221 := n1_; have GW221 := n2_; have GE221 := n3_; clear n0_ n1_ n2_ n3_; clear hb hbox hg; have hcz6_0 : w5.cell? ⟨gb221, 0, none⟩ = some (.int .i64 a0_0) := (blk_cell BK221.out 0).trans rfl; have hcz6_1 : w5.cell? ⟨gb221, 1, none⟩ = some (.int .u64 a0_1) := (blk_cell BK221.out 1).trans rfl; have hcz6_2 : w5.cell? ⟨gb221, 2, none⟩ = some (.int .i64 a0_2) := (blk_cell BK221.out 2).trans rfl; have hcz6_3 : w5.cell? ⟨gb221, 3, none⟩ = some (.int .i64 a0_3) := (blk_cell BK221.out 3).trans rfl; have hcz6_4 : w5.cell? ⟨gb221, 4, none⟩ = some (.int .u32 a0_4) := (blk_cell BK221.out 4).trans rfl; have hcz6_5 : w5.cell? ⟨gb221, 5, none⟩ = some (.slice A0_5 l0_5.length c0_5) := (blk_cell BK221.out 5).trans rfl; have hcz6_6 : w5.cell? ⟨gb221, 6, none⟩ = some (.slice A0_6 l0_6.length c0_6) := (blk_cell BK221.out 6).trans rfl; have hfz6_0 := blk_frozen BK221.out 0; have hfz6_1 := blk_frozen BK221.out 1; have hfz6_2 := blk_frozen BK221.out 2; have hfz6_3 := blk_frozen BK221.out 3; have hfz6_4 := blk_frozen BK221.out 4; have hfz6_5 := blk_frozen BK221.out 5; have hfz6_6 := blk_frozen BK221.out 6) | ((with_reducible refine gate_callee (f := 85) rfl ?_); refine goesL_ (some 9) rfl rfl Try.func85 (by kernel_rfl) rfl #[.agg #[.int .i64 a0_0, .int .u64 a0_1, .int .i64 a0_2, .int .i64 a0_3, .int .u32 a0_4, .slice A0_5 l0_5.length c0_5, .slice A0_6 l0_6.length c0_6]] rfl (by (try simp only [List.map_toArray, List.map_cons, List.map_nil]); first | done | rfl | (simp only [List.length_drop, List.length_take]; rfl)) ?_; (with_reducible refine (pack_Encode.calls k a0_0 a0_1 a0_2 a0_3 a0_4 _ _ l0_5 _ _ l0_6 t222 t225 _ ?side1 ?side2 ?side3 ?side4 A2.out).mono ?_); (case side1 => repeat (first | exact (Kd.C_below HR0_5.out HB.out) | (with_reducible refine Kd.C_alloc ?_ _) | (with_reducible refine Kd.C_drewN ?_ _) | (with_reducible refine Kd.C_drew ?_))); (case side2 => exact HC0_5.out); (case side3 => repeat (first | exact (Kd.C_below HR0_6.out HB.out) | (with_reducible refine Kd.C_alloc ?_ _) | (with_reducible refine Kd.C_drewN ?_ _) | (with_reducible refine Kd.C_drew ?_))); (case side4 => exact HC0_6.out); rintro e w7 ⟨v223, rfl, ho0, hb⟩; refine ⟨_, rfl, ?_⟩; have n0_ := Aside0.mk (Kd.R_lower ho0 (below_size (by repeat (first | (with_reducible first | exact HB.out | apply below_alloc | apply pw_below_drewN | apply below_drew1 | refine below_set ?_ GE221.out) | exact HB.out)))); have n1_ := Aside0.mk (blk_below (g := gb221) (o := .cells #[.int .i64 a0_0, .int .u64 a0_1, .int .i64 a0_2, .int .i64 a0_3, .int .u32 a0_4, .slice A0_5 l0_5.length c0_5, .slice A0_6 l0_6.length c0_6] 56 (0, 0)) (Far.Ba BK221.out) hb); have n2_ := Aside0.mk (below_step (by repeat (first | (with_reducible first | exact HB.out | apply below_alloc | apply pw_below_drewN | apply below_drew1 | refine below_set ?_ GE221.out) | exact HB.out)) hb); clear BK221 HB; have HO224 := n0_; have BK221 := n1_; have HB := n2_; clear n0_ n1_ n2_; (try clear hb); (try clear hb2); (try clear hk); (try clear hi); (try clear ho0); have hcz8_0 : w7.cell? ⟨gb221, 0, none⟩ = some (.int .i64 a0_0) := (blk_cell BK221.out 0).trans rfl; have hcz8_1 : w7.cell? ⟨gb221, 1, none⟩ = some (.int .u64 a0_1) := (blk_cell BK221.out 1).trans rfl; have hcz8_2 : w7.cell? ⟨gb221, 2, none⟩ = some (.int .i64 a0_2) := (blk_cell BK221.out 2).trans rfl; have hcz8_3 : w7.cell? ⟨gb221, 3, none⟩ = some (.int .i64 a0_3) := (blk_cell BK221.out 3).trans rfl; have hcz8_4 : w7.cell? ⟨gb221, 4, none⟩ = some (.int .u32 a0_4) := (blk_cell BK221.out 4).trans rfl; have hcz8_5 : w7.cell? ⟨gb221, 5, none⟩ = some (.slice A0_5 l0_5.length c0_5) := (blk_cell BK221.out 5).trans rfl; have hcz8_6 : w7.cell? ⟨gb221, 6, none⟩ = some (.slice A0_6 l0_6.length c0_6) := (blk_cell BK221.out 6).trans rfl; have hfz8_0 := blk_frozen BK221.out 0; have hfz8_1 := blk_frozen BK221.out 1; have hfz8_2 := blk_frozen BK221.out 2; have hfz8_3 := blk_frozen BK221.out 3; have hfz8_4 := blk_frozen BK221.out 4; have hfz8_5 := blk_frozen BK221.out 5; have hfz8_6 := blk_frozen BK221.out 6) | ((with_reducible refine gate_callee (f := 33) rfl ?_); refine goesL_ (some 14) rfl rfl Try.func33 (by kernel_rfl) rfl #[.agg #[.int .i64 a0_0, .int .u64 a0_1, .int .i64 a0_2, .int .i64 a0_3, .int .u32 a0_4, .slice A0_5 l0_5.length c0_5, .slice A0_6 l0_6.length c0_6]] rfl (by (try simp only [List.map_toArray, List.map_cons, List.map_nil]); first | done | rfl | (simp only [List.length_drop, List.length_take]; rfl)) ?_; (with_reducible refine (scullerref13_Encode.calls k a0_0 a0_1 a0_2 a0_3 a0_4 _ _ l0_5 _ _ l0_6 t226 t229 _ ?side1 ?side2 ?side3 ?side4 A3.out).mono ?_); (case side1 => repeat (first | exact (Kd.C_below HR0_5.out HB.out) | (with_reducible refine Kd.C_alloc ?_ _) | (with_reducible refine Kd.C_drewN ?_ _) | (with_reducible refine Kd.C_drew ?_))); (case side2 => exact HC0_5.out); (case side3 => repeat (first | exact (Kd.C_below HR0_6.out HB.out) | (with_reducible refine Kd.C_alloc ?_ _) | (with_reducible refine Kd.C_drewN ?_ _) | (with_reducible refine Kd.C_drew ?_))); (case side4 => exact HC0_6.out); rintro e w9 ⟨v227, rfl, ho0, hb⟩; refine ⟨_, rfl, ?_⟩; have n0_ := Aside0.mk (Kd.R_elder' (Far.Ra HO224.out) (Kd.R_base ho0) hb); have n1_ := Aside0.mk (Kd.R_lower (Kd.R_new' ho0 (Kd.R_lt (Far.Ra HO224.out))) (below_size (by repeat (first | (with_reducible first | exact HB.out | apply below_alloc | apply pw_below_drewN | apply below_drew1 | refine below_set ?_ GE221.out) | exact HB.out)))); have n2_ := Aside0.mk (blk_below (g := gb221) (o := .cells #[.int .i64 a0_0, .int .u64 a0_1, .int .i64 a0_2, .int .i64 a0_3, .int .u32 a0_4, .slice A0_5 l0_5.length c0_5, .slice A0_6 l0_6.length c0_6] 56 (0, 0)) (Far.Ba BK221.out) hb); have n3_ := Aside0.mk (below_step (by repeat (first | (with_reducible first | exact HB.out | apply below_alloc | apply pw_below_drewN | apply below_drew1 | refine below_set ?_ GE221.out) | exact HB.out)) hb); clear HO224 BK221 HB; have HO224 := n0_; have HO228 := n1_; have BK221 := n2_; have HB := n3_; clear n0_ n1_ n2_ n3_; (try clear hb); (try clear hb2); (try clear hk); (try clear hi); (try clear ho0); have hcv10 := own_string (P := Try.prog) Try.underlying22 Try.underlying5 Try.underlying9 (Kd.own_of_R HO224.out); have hcv11 := own_string (P := Try.prog) Try.underlying22 Try.underlying5 Try.underlying9 (Kd.own_of_R HO228.out)))
    go_ret
    exact ⟨by first | rfl | (simp [errW_none, errW_some] <;> rfl) | (simp [*, errW_none, errW_some] <;> rfl) | (refine congrArg (fun z_ : Int => Ending.returned (.bool (z_ == _))) ?_; simp only [IntKind.wrap, IntKind.bits, IntKind.signed]; simp <;> omega), by repeat (first | (with_reducible first | exact HB.out | apply below_alloc | apply pw_below_drewN | apply below_drew1 | refine below_set ?_ GE221.out) | exact HB.out)⟩
  · rw [if_neg c4] at H
    have c4b0 : ((strOfNums t222).toList == (strOfNums t226).toList) = false := beq_eq_false_iff_ne.mpr c4
    have c4b1 : ((strOfNums t222).toList != (strOfNums t226).toList) = true := bne_iff_ne.mpr c4
    obtain rfl := Option.some.inj H
    go_enter Try.func34, Try.ntmps34
    go_wp2_with (first | ((with_reducible refine gate_dst (N := 1) rfl ?_); refine box_event ?hg (N := 1) ?hd (cs := #[.int .i64 a0_0, .int .u64 a0_1, .int .i64 a0_2, .int .i64 a0_3, .int .u32 a0_4, .slice A0_5 l0_5.length c0_5, .slice A0_6 l0_6.length c0_6]) (t := 56) ?hr ?_; (case hd => rfl); (case hg => rfl); (case hr => first | (go_simp; done) | (go_simp; rfl)); intro gb221 hg w12 hbox hb; have n0_ := Aside0.mk (below_step (Far.Bb HB.out) hb); have n1_ := Aside0.mk (hbox); have n2_ := Aside0.mk ((by rw [hg]; exact (below_size (Far.Bb HB.out)) : w.heap.size ≤ gb221)); have n3_ := Aside0.mk ((by rw [hg]; exact (below_size (Far.Bb HB.out)) : w.heap.size ≤ gb221)); clear HB; have HB := n0_; have BK221 := n1_; have GW221 := n2_; have GE221 := n3_; clear n0_ n1_ n2_ n3_; clear hb hbox hg; have hcz13_0 : w12.cell? ⟨gb221, 0, none⟩ = some (.int .i64 a0_0) := (blk_cell BK221.out 0).trans rfl; have hcz13_1 : w12.cell? ⟨gb221, 1, none⟩ = some (.int .u64 a0_1) := (blk_cell BK221.out 1).trans rfl; have hcz13_2 : w12.cell? ⟨gb221, 2, none⟩ = some (.int .i64 a0_2) := (blk_cell BK221.out 2).trans rfl; have hcz13_3 : w12.cell? ⟨gb221, 3, none⟩ = some (.int .i64 a0_3) := (blk_cell BK221.out 3).trans rfl; have hcz13_4 : w12.cell? ⟨gb221, 4, none⟩ = some (.int .u32 a0_4) := (blk_cell BK221.out 4).trans rfl; have hcz13_5 : w12.cell? ⟨gb221, 5, none⟩ = some (.slice A0_5 l0_5.length c0_5) := (blk_cell BK221.out 5).trans rfl; have hcz13_6 : w12.cell? ⟨gb221, 6, none⟩ = some (.slice A0_6 l0_6.length c0_6) := (blk_cell BK221.out 6).trans rfl; have hfz13_0 := blk_frozen BK221.out 0; have hfz13_1 := blk_frozen BK221.out 1; have hfz13_2 := blk_frozen BK221.out 2; have hfz13_3 := blk_frozen BK221.out 3; have hfz13_4 := blk_frozen BK221.out 4; have hfz13_5 := blk_frozen BK221.out 5; have hfz13_6 := blk_frozen BK221.out 6) | ((with_reducible refine gate_callee (f := 85) rfl ?_); refine goesL_ (some 9) rfl rfl Try.func85 (by kernel_rfl) rfl #[.agg #[.int .i64 a0_0, .int .u64 a0_1, .int .i64 a0_2, .int .i64 a0_3, .int .u32 a0_4, .slice A0_5 l0_5.length c0_5, .slice A0_6 l0_6.length c0_6]] rfl (by (try simp only [List.map_toArray, List.map_cons, List.map_nil]); first | done | rfl | (simp only [List.length_drop, List.length_take]; rfl)) ?_; (with_reducible refine (pack_Encode.calls k a0_0 a0_1 a0_2 a0_3 a0_4 _ _ l0_5 _ _ l0_6 t222 t225 _ ?side1 ?side2 ?side3 ?side4 A2.out).mono ?_); (case side1 => repeat (first | exact (Kd.C_below HR0_5.out HB.out) | (with_reducible refine Kd.C_alloc ?_ _) | (with_reducible refine Kd.C_drewN ?_ _) | (with_reducible refine Kd.C_drew ?_))); (case side2 => exact HC0_5.out); (case side3 => repeat (first | exact (Kd.C_below HR0_6.out HB.out) | (with_reducible refine Kd.C_alloc ?_ _) | (with_reducible refine Kd.C_drewN ?_ _) | (with_reducible refine Kd.C_drew ?_))); (case side4 => exact HC0_6.out); rintro e w14 ⟨v223, rfl, ho0, hb⟩; refine ⟨_, rfl, ?_⟩; have n0_ := Aside0.mk (Kd.R_lower ho0 (below_size (by repeat (first | (with_reducible first | exact HB.out | apply below_alloc | apply pw_below_drewN | apply below_drew1 | refine below_set ?_ GE221.out) | exact HB.out)))); have n1_ := Aside0.mk (blk_below (g := gb221) (o := .cells #[.int .i64 a0_0, .int .u64 a0_1, .int .i64 a0_2, .int .i64 a0_3, .int .u32 a0_4, .slice A0_5 l0_5.length c0_5, .slice A0_6 l0_6.length c0_6] 56 (0, 0)) (Far.Ba BK221.out) hb); have n2_ := Aside0.mk (below_step (by repeat (first | (with_reducible first | exact HB.out | apply below_alloc | apply pw_below_drewN | apply below_drew1 | refine below_set ?_ GE221.out) | exact HB.out)) hb); clear BK221 HB; have HO224 := n0_; have BK221 := n1_; have HB := n2_; clear n0_ n1_ n2_; (try clear hb); (try clear hb2); (try clear hk); (try clear hi); (try clear ho0); have hcz15_0 : w14.cell? ⟨gb221, 0, none⟩ = some (.int .i64 a0_0) := (blk_cell BK221.out 0).trans rfl; have hcz15_1 : w14.cell? ⟨gb221, 1, none⟩ = some (.int .u64 a0_1) := (blk_cell BK221.out 1).trans rfl; have hcz15_2 : w14.cell? ⟨gb221, 2, none⟩ = some (.int .i64 a0_2) := (blk_cell BK221.out 2).trans rfl; have hcz15_3 : w14.cell? ⟨gb221, 3, none⟩ = some (.int .i64 a0_3) := (blk_cell BK221.out 3).trans rfl; have hcz15_4 : w14.cell? ⟨gb221, 4, none⟩ = some (.int .u32 a0_4) := (blk_cell BK221.out 4).trans rfl; have hcz15_5 : w14.cell? ⟨gb221, 5, none⟩ = some (.slice A0_5 l0_5.length c0_5) := (blk_cell BK221.out 5).trans rfl; have hcz15_6 : w14.cell? ⟨gb221, 6, none⟩ = some (.slice A0_6 l0_6.length c0_6) := (blk_cell BK221.out 6).trans rfl; have hfz15_0 := blk_frozen BK221.out 0; have hfz15_1 := blk_frozen BK221.out 1; have hfz15_2 := blk_frozen BK221.out 2; have hfz15_3 := blk_frozen BK221.out 3; have hfz15_4 := blk_frozen BK221.out 4; have hfz15_5 := blk_frozen BK221.out 5; have hfz15_6 := blk_frozen BK221.out 6) | ((with_reducible refine gate_callee (f := 33) rfl ?_); refine goesL_ (some 14) rfl rfl Try.func33 (by kernel_rfl) rfl #[.agg #[.int .i64 a0_0, .int .u64 a0_1, .int .i64 a0_2, .int .i64 a0_3, .int .u32 a0_4, .slice A0_5 l0_5.length c0_5, .slice A0_6 l0_6.length c0_6]] rfl (by (try simp only [List.map_toArray, List.map_cons, List.map_nil]); first | done | rfl | (simp only [List.length_drop, List.length_take]; rfl)) ?_; (with_reducible refine (scullerref13_Encode.calls k a0_0 a0_1 a0_2 a0_3 a0_4 _ _ l0_5 _ _ l0_6 t226 t229 _ ?side1 ?side2 ?side3 ?side4 A3.out).mono ?_); (case side1 => repeat (first | exact (Kd.C_below HR0_5.out HB.out) | (with_reducible refine Kd.C_alloc ?_ _) | (with_reducible refine Kd.C_drewN ?_ _) | (with_reducible refine Kd.C_drew ?_))); (case side2 => exact HC0_5.out); (case side3 => repeat (first | exact (Kd.C_below HR0_6.out HB.out) | (with_reducible refine Kd.C_alloc ?_ _) | (with_reducible refine Kd.C_drewN ?_ _) | (with_reducible refine Kd.C_drew ?_))); (case side4 => exact HC0_6.out); rintro e w16 ⟨v227, rfl, ho0, hb⟩; refine ⟨_, rfl, ?_⟩; have n0_ := Aside0.mk (Kd.R_elder' (Far.Ra HO224.out) (Kd.R_base ho0) hb); have n1_ := Aside0.mk (Kd.R_lower (Kd.R_new' ho0 (Kd.R_lt (Far.Ra HO224.out))) (below_size (by repeat (first | (with_reducible first | exact HB.out | apply below_alloc | apply pw_below_drewN | apply below_drew1 | refine below_set ?_ GE221.out) | exact HB.out)))); have n2_ := Aside0.mk (blk_below (g := gb221) (o := .cells #[.int .i64 a0_0, .int .u64 a0_1, .int .i64 a0_2, .int .i64 a0_3, .int .u32 a0_4, .slice A0_5 l0_5.length c0_5, .slice A0_6 l0_6.length c0_6] 56 (0, 0)) (Far.Ba BK221.out) hb); have n3_ := Aside0.mk (below_step (by repeat (first | (with_reducible first | exact HB.out | apply below_alloc | apply pw_below_drewN | apply below_drew1 | refine below_set ?_ GE221.out) | exact HB.out)) hb); clear HO224 BK221 HB; have HO224 := n0_; have HO228 := n1_; have BK221 := n2_; have HB := n3_; clear n0_ n1_ n2_ n3_; (try clear hb); (try clear hb2); (try clear hk); (try clear hi); (try clear ho0); have hcv17 := own_string (P := Try.prog) Try.underlying22 Try.underlying5 Try.underlying9 (Kd.own_of_R HO224.out); have hcv18 := own_string (P := Try.prog) Try.underlying22 Try.underlying5 Try.underlying9 (Kd.own_of_R HO228.out)))
    go_ret
    exact ⟨by first | rfl | (simp [errW_none, errW_some] <;> rfl) | (simp [*, errW_none, errW_some] <;> rfl) | (refine congrArg (fun z_ : Int => Ending.returned (.bool (z_ == _))) ?_; simp only [IntKind.wrap, IntKind.bits, IntKind.signed]; simp <;> omega), by repeat (first | (with_reducible first | exact HB.out | apply below_alloc | apply pw_below_drewN | apply below_drew1 | refine below_set ?_ GE221.out) | exact HB.out)⟩
def scullerref01_Get.l0 : Nat → List Int → Int → Int → Option (Int)
  | 0, _, _, _ => none
  | k + 1, x0, x3, x4 => if x4 ≥ 0 then (if 0 ≤ x4 then (if x4 < (x0.length : Int) then (scullerref01_Get.l0 k x0 (IntKind.u64.wrap ((IntKind.u64.wrap (256 * x3)) + (IntKind.u64.wrap (rd x0 x4)))) (wrap64 (x4 - 1))) else (none)) else (none)) else (some x3)
def scullerref01_Get.f (k : Nat) (l0 : List Int) : Option (Int) := scullerref01_Get.l0 k l0 0 ((mn (l0.length : Int) 8) - 1)
set_option maxHeartbeats 8000000 in
set_option maxRecDepth 100000 in
theorem scullerref01_Get.calls (k : Nat) (A0 : Option Addr) (c0 : Nat) (l0 : List Int) (r : Int) (w : World) (hr0 : Kd.C (Kd.int .u8) w A0 l0.length l0) (hc0 : l0.length ≤ c0) (h : scullerref01_Get.f k l0 = some r) :
    Calls Try.prog 132 #[.slice A0 l0.length c0] w fun e w' => e = .returned (.int .u64 r) ∧ Below w.heap.size w w' := by
  have HR0 := Aside0.mk hr0
  have HC0 := Aside0.mk hc0
  clear hr0 hc0
  have HB := Aside0.mk (Below.refl w.heap.size w)
  have H : (scullerref01_Get.l0 k l0 0 ((mn (l0.length : Int) 8) - 1)) = some r := h
  clear h
  obtain ⟨ji2, hji2⟩ : ∃ j_ : Int, (mn (l0.length : Int) 8) = j_ := ⟨_, rfl⟩
  replace H : (scullerref01_Get.l0 k l0 0 ((ji2) - 1)) = some r := by first | (rw [hji2] at H; exact H) | (simp only [hji2] at H ⊢; exact H)
  (try (have hji2h : ji2 ≤ 8 := by (rw [← hji2]; unfold mn; (repeat' split) <;> omega)))
  (try (have hji2g : ji2 ≤ 64 := by omega))
  (try (have hji2l : 0 ≤ ji2 := by (rw [← hji2]; unfold mn; (repeat' split) <;> omega)))
  (try (have hji2m : 0 ≤ ji2 := by omega))
  have hji2_ : (if 8 < (l0.length : Int) then 8 else (l0.length : Int)) = ji2 := hji2
  have H' := Aside0.mk H
  clear H
  go_enter Try.func132, Try.ntmps132
  go_wp2
  go_loopg [3, 4] k (fun kq v3 v4 w' => ∃ (x3_1 : Int) (x4_1 : Int), v3 = .int .u64 x3_1 ∧ v4 = .int .i64 x4_1 ∧ Aside0 (scullerref01_Get.l0 kq l0 x3_1 x4_1 = some r) ∧ Aside0 (kq ≤ k) ∧ Aside0 (Below w.heap.size w w'))
  case atStart => exact ⟨(0), ((ji2) - 1), (by first | rfl | (simp; done) | (simp [*]; done)), (by first | rfl | (simp; done) | (simp only [← hji2] <;> (first | rfl | simp)) | (simp [*]; done)), H', ⟨Nat.le_refl _⟩, ⟨by repeat (first | (with_reducible first | exact HB.out | apply below_alloc | apply pw_below_drewN | apply below_drew1) | exact HB.out)⟩⟩
  case round =>
    clear H'; (try clear c1); (try clear p2)
    obtain ⟨x3_1, x4_1, rfl, rfl, HA, HK1, HB⟩ := hrel
    cases gk with
    | zero => exact absurd HA.out (by simp [scullerref01_Get.l0])
    | succ k1 =>
      have H := HA.out
      clear HA
      simp only [scullerref01_Get.l0] at H
      by_cases c3 : x4_1 ≥ 0
      · rw [if_pos c3] at H
        have c3b0 : decide (0 ≤ x4_1) = true := decide_eq_true c3
        clear c3
        by_cases c4 : 0 ≤ x4_1
        · rw [if_pos c4] at H
          have c4b0 : decide (0 ≤ x4_1) = true := decide_eq_true c4
          clear c4
          by_cases c5 : x4_1 < (l0.length : Int)
          · rw [if_pos c5] at H
            have c5b0 : decide (x4_1 < (l0.length : Int)) = true := decide_eq_true c5
            clear c5
            have H' := Aside0.mk H
            clear H
            have p230 : 0 ≤ (x4_1 : Int) := of_decide_eq_true (by first | (with_reducible assumption) | assumption)
            have q230 : x4_1 < (l0.length : Int) := of_decide_eq_true (by first | (with_reducible assumption) | assumption)
            obtain ⟨ad230, e230, hx230_0⟩ := Kd.at_int HR0.out x4_1 p230 q230
            cases e230
            replace hx230_0 := (HB.out.cell (World.block_lt_of_cell? w _ hx230_0)).trans hx230_0
            replace p230 := eq_true p230
            replace q230 := eq_true q230
            go_wp2
            go_roundg k1
            case measure => have := HK1.out; omega
            case rel => exact ⟨(IntKind.u64.wrap ((IntKind.u64.wrap (256 * x3_1)) + (IntKind.u64.wrap (rd l0 x4_1)))), (wrap64 (x4_1 - 1)), (by first | rfl | (simp; done) | (simp [*]; done)), (by first | rfl | (simp; done) | (simp [*]; done)), H', ⟨by have := HK1.out; omega⟩, ⟨by repeat (first | (with_reducible first | exact HB.out | apply below_alloc | apply pw_below_drewN | apply below_drew1) | exact HB.out)⟩⟩
          · rw [if_neg c5] at H
            exact absurd H (by simp)
        · rw [if_neg c4] at H
          exact absurd H (by simp)
      · rw [if_neg c3] at H
        have c3b0 : decide (0 ≤ x4_1) = false := decide_eq_false c3
        clear c3
        obtain rfl := Option.some.inj H
        go_wp2
        go_ret
        exact ⟨by first | rfl | (simp [errW_none, errW_some] <;> rfl) | (simp only [← hji2]; first | rfl | (simp [errW_none, errW_some] <;> rfl)) | (simp [*, errW_none, errW_some] <;> rfl), by repeat (first | (with_reducible first | exact HB.out | apply below_alloc | apply pw_below_drewN | apply below_drew1) | exact HB.out)⟩
def scullerref13_get.f (k : Nat) (l0 : List Int) (a1 : Int) (a2 : Int) : Option (Int) := if 0 ≤ a1 then (if a1 ≤ (wrap64 (a1 + a2)) then (if (wrap64 (a1 + a2)) ≤ (l0.length : Int) then ((scullerref01_Get.f k ((l0.take ((wrap64 (a1 + a2)) : Int).toNat).drop (a1 : Int).toNat)).bind fun t232 => (some (wrap64 (t232)))) else (none)) else (none)) else (none)
set_option maxHeartbeats 8000000 in
set_option maxRecDepth 100000 in
theorem scullerref13_get.calls (k : Nat) (A0 : Option Addr) (c0 : Nat) (l0 : List Int) (a1 : Int) (a2 : Int) (r : Int) (w : World) (hr0 : Kd.C (Kd.int .u8) w A0 l0.length l0) (hc0 : l0.length ≤ c0) (h : scullerref13_get.f k l0 a1 a2 = some r) :
    Calls Try.prog 133 #[.slice A0 l0.length c0, .int .i64 a1, .int .i64 a2] w fun e w' => e = .returned (.int .i64 r) ∧ Below w.heap.size w w' := by
  have HR0 := Aside0.mk hr0
  have HC0 := Aside0.mk hc0
  clear hr0 hc0
  have HB := Aside0.mk (Below.refl w.heap.size w)
  have H : (if 0 ≤ a1 then (if a1 ≤ (wrap64 (a1 + a2)) then (if (wrap64 (a1 + a2)) ≤ (l0.length : Int) then ((scullerref01_Get.f k ((l0.take ((wrap64 (a1 + a2)) : Int).toNat).drop (a1 : Int).toNat)).bind fun t232 => (some (wrap64 (t232)))) else (none)) else (none)) else (none)) = some r := h
  clear h
  by_cases c4 : 0 ≤ a1
  · rw [if_pos c4] at H
    have c4b0 := eq_true c4
    have c4b1 : decide (0 ≤ a1) = true := decide_eq_true c4
    clear c4
    by_cases c5 : a1 ≤ (wrap64 (a1 + a2))
    · rw [if_pos c5] at H
      have c5b0 := eq_true c5
      have c5b1 : decide (a1 ≤ (wrap64 (a1 + a2))) = true := decide_eq_true c5
      by_cases c6 : (wrap64 (a1 + a2)) ≤ (l0.length : Int)
      · rw [if_pos c6] at H
        have c6b0 := eq_true c6
        have c6b1 : decide ((wrap64 (a1 + a2)) ≤ (l0.length : Int)) = true := decide_eq_true c6
        (try have c6kb1 : (((wrap64 (a1 + a2))) ≤ (c0 : Int)) = True := eq_true (by have h_ := HC0.out; have q_ := of_decide_eq_true c6b1; omega))
        replace H := Option.bind_eq_some_iff.mp H
        obtain ⟨t232, A70, H⟩ := H
        replace H : (some (wrap64 (t232))) = some r := H
        have A7 := Aside0.mk A70
        clear A70
        obtain rfl := Option.some.inj H
        obtain ⟨i08, hi08, _, hsz8, _⟩ := info_parts info5
        obtain ⟨A8, hcut8, hA8, hC8⟩ := print_mid_of (P := Try.prog) (Value.int .u8) 0 22 5 .i64 .i64 Try.underlying22 hi08 hsz8 A0 c0 l0 a1 (wrap64 (a1 + a2)) (of_decide_eq_true (by first | (with_reducible assumption) | assumption)) (by first | omega | exact of_decide_eq_true (by first | (with_reducible assumption) | assumption)) (of_decide_eq_true (by first | (with_reducible assumption) | assumption)) HC0.out
        have HR231 := Aside0.mk (Kd.C_of_reads (h1 := fun _ => rfl) (hA8 _ (Kd.reads_of_C HR0.out)))
        have HC231 := Aside0.mk hC8
        clear hA8 hC8 hi08 hsz8
        go_enter Try.func133, Try.ntmps133
        go_wp2_with (first | ((with_reducible refine gate_callee (f := 132) rfl ?_); refine goesL_ (some 13) rfl rfl Try.func132 (by kernel_rfl) rfl #[.slice A8 ((l0.take ((wrap64 (a1 + a2)) : Int).toNat).drop (a1 : Int).toNat).length (c0 - a1.toNat)] rfl (by (try simp only [List.map_toArray, List.map_cons, List.map_nil]); first | done | (rw [show ((l0.take ((wrap64 (a1 + a2)) : Int).toNat).drop (a1 : Int).toNat).length = ((wrap64 (a1 + a2)).toNat - a1.toNat) from (by rw [List.length_drop, List.length_take]; have h_ : ((wrap64 (a1 + a2)) : Int) ≤ (l0.length : Int) := of_decide_eq_true (by first | (with_reducible assumption) | assumption); omega)] <;> rfl) | rfl | (simp only [List.length_drop, List.length_take]; rfl)) ?_; (with_reducible refine (scullerref01_Get.calls k _ _ ((l0.take ((wrap64 (a1 + a2)) : Int).toNat).drop (a1 : Int).toNat) t232 _ ?side1 ?side2 A7.out).mono ?_); (case side1 => repeat (first | exact HR231.out | (with_reducible refine Kd.C_alloc ?_ _) | (with_reducible refine Kd.C_drewN ?_ _) | (with_reducible refine Kd.C_drew ?_))); (case side2 => exact HC231.out); rintro e w9 ⟨rfl, hb⟩; refine ⟨_, rfl, ?_⟩; have n0_ := Aside0.mk (below_step (Far.Bb HB.out) hb); clear HB; have HB := n0_; clear n0_; (try clear hb); (try clear hb2); (try clear hk); (try clear hi)))
        go_ret
        exact ⟨by first | rfl | (simp [errW_none, errW_some] <;> rfl) | (simp [*, errW_none, errW_some] <;> rfl) | (refine congrArg (fun z_ : Int => Ending.returned (.bool (z_ == _))) ?_; simp only [IntKind.wrap, IntKind.bits, IntKind.signed]; simp <;> omega), by repeat (first | (with_reducible first | exact HB.out | apply below_alloc | apply pw_below_drewN | apply below_drew1) | exact HB.out)⟩
      · rw [if_neg c6] at H
        exact absurd H (by simp)
    · rw [if_neg c5] at H
      exact absurd H (by simp)
  · rw [if_neg c4] at H
    exact absurd H (by simp)
def scullerref07_SameInts.l0 : Nat → List Int → List Int → Int → Option (Bool)
  | 0, _, _, _ => none
  | k + 1, x0, x1, x5 => if x5 < (x0.length : Int) then (if 0 ≤ x5 then (if x5 < (x1.length : Int) then (if (rd x0 x5) = (rd x1 x5) then (scullerref07_SameInts.l0 k x0 x1 (wrap64 (x5 + 1))) else (some false)) else (none)) else (none)) else (some true)
def scullerref07_SameInts.f (k : Nat) (l0 : List Int) (l1 : List Int) : Option (Bool) := if (l0.length : Int) = (l1.length : Int) then (scullerref07_SameInts.l0 k l0 l1 0) else (some false)
set_option maxHeartbeats 8000000 in
set_option maxRecDepth 100000 in
theorem scullerref07_SameInts.calls (k : Nat) (A0 : Option Addr) (c0 : Nat) (l0 : List Int) (A1 : Option Addr) (c1 : Nat) (l1 : List Int) (r : Bool) (w : World) (hr0 : Kd.C (Kd.int .i64) w A0 l0.length l0) (hc0 : l0.length ≤ c0) (hr1 : Kd.C (Kd.int .i64) w A1 l1.length l1) (hc1 : l1.length ≤ c1) (h : scullerref07_SameInts.f k l0 l1 = some r) :
    Calls Try.prog 61 #[.slice A0 l0.length c0, .slice A1 l1.length c1] w fun e w' => e = .returned (.bool r) ∧ Drawn0 w w' := by
  have HR0 := Aside0.mk hr0
  have HC0 := Aside0.mk hc0
  clear hr0 hc0
  have HR1 := Aside0.mk hr1
  have HC1 := Aside0.mk hc1
  clear hr1 hc1
  have H : (if (l0.length : Int) = (l1.length : Int) then (scullerref07_SameInts.l0 k l0 l1 0) else (some false)) = some r := h
  clear h
  by_cases c3 : (l0.length : Int) = (l1.length : Int)
  · rw [if_pos c3] at H
    have c3b0 : ((l0.length : Int) == (l1.length : Int)) = true := beq_iff_eq.mpr c3
    have c3b1 : ((l0.length : Int) != (l1.length : Int)) = false := bne_eq_false_iff_eq.mpr c3
    have c3b2 : (l0.length == l1.length) = true := by first | simpa using c3 | (simp at c3 ⊢; omega)
    clear c3
    have H' := Aside0.mk H
    clear H
    go_enter Try.func61, Try.ntmps61
    go_wp2
    repeat (go_quiet (fail); try go_wp2)
    go_loopg [5] k (fun kq v5 w' => ∃ (x5_1 : Int), v5 = .int .i64 x5_1 ∧ Aside0 (scullerref07_SameInts.l0 kq l0 l1 x5_1 = some r) ∧ Aside0 (kq ≤ k) ∧ Drawn0 w w')
    case atStart => exact ⟨(0), (by first | rfl | (simp; done) | (simp [*]; done)), H', ⟨Nat.le_refl _⟩, by repeat (first | exact Drawn0.refl _ | apply Drawn0.step)⟩
    case round =>
      clear H'; (try clear c1); (try clear p2); (try clear c3); (try clear c3b0); (try clear c3b1); (try clear c3b2)
      obtain ⟨x5_1, rfl, HA, HK1, ⟨m1, rfl⟩⟩ := hrel
      cases gk with
      | zero => exact absurd HA.out (by simp [scullerref07_SameInts.l0])
      | succ k1 =>
        have H := HA.out
        clear HA
        simp only [scullerref07_SameInts.l0] at H
        by_cases c4 : x5_1 < (l0.length : Int)
        · rw [if_pos c4] at H
          have c4b0 : decide (x5_1 < (l0.length : Int)) = true := decide_eq_true c4
          clear c4
          by_cases c5 : 0 ≤ x5_1
          · rw [if_pos c5] at H
            have c5b0 : decide (0 ≤ x5_1) = true := decide_eq_true c5
            clear c5
            by_cases c6 : x5_1 < (l1.length : Int)
            · rw [if_pos c6] at H
              have c6b0 : decide (x5_1 < (l1.length : Int)) = true := decide_eq_true c6
              clear c6
              by_cases c7 : (rd l0 x5_1) = (rd l1 x5_1)
              · rw [if_pos c7] at H
                have c7b0 : ((rd l0 x5_1) == (rd l1 x5_1)) = true := beq_iff_eq.mpr c7
                have c7b1 : ((rd l0 x5_1) != (rd l1 x5_1)) = false := bne_eq_false_iff_eq.mpr c7
                clear c7
                have H' := Aside0.mk H
                clear H
                have p233 : 0 ≤ (x5_1 : Int) := of_decide_eq_true (by first | (with_reducible assumption) | assumption)
                have q233 : x5_1 < (l0.length : Int) := of_decide_eq_true (by first | (with_reducible assumption) | assumption)
                obtain ⟨ad233, e233, hx233_0⟩ := Kd.at_int HR0.out x5_1 p233 q233
                cases e233
                replace p233 := eq_true p233
                replace q233 := eq_true q233
                have p234 : 0 ≤ (x5_1 : Int) := of_decide_eq_true (by first | (with_reducible assumption) | assumption)
                have q234 : x5_1 < (l1.length : Int) := of_decide_eq_true (by first | (with_reducible assumption) | assumption)
                obtain ⟨ad234, e234, hx234_0⟩ := Kd.at_int HR1.out x5_1 p234 q234
                cases e234
                replace p234 := eq_true p234
                replace q234 := eq_true q234
                go_wp2
                repeat (go_quiet (fail); try go_wp2)
                go_roundg k1
                case measure => have := HK1.out; omega
                case rel => exact ⟨(wrap64 (x5_1 + 1)), (by first | rfl | (simp; done) | (simp [*]; done)), H', ⟨by have := HK1.out; omega⟩, by repeat (first | exact Drawn0.refl _ | apply Drawn0.step)⟩
              · rw [if_neg c7] at H
                have c7b0 : ((rd l0 x5_1) == (rd l1 x5_1)) = false := beq_eq_false_iff_ne.mpr c7
                have c7b1 : ((rd l0 x5_1) != (rd l1 x5_1)) = true := bne_iff_ne.mpr c7
                obtain rfl := Option.some.inj H
                have p233 : 0 ≤ (x5_1 : Int) := of_decide_eq_true (by first | (with_reducible assumption) | assumption)
                have q233 : x5_1 < (l0.length : Int) := of_decide_eq_true (by first | (with_reducible assumption) | assumption)
                obtain ⟨ad233, e233, hx233_0⟩ := Kd.at_int HR0.out x5_1 p233 q233
                cases e233
                replace p233 := eq_true p233
                replace q233 := eq_true q233
                have p234 : 0 ≤ (x5_1 : Int) := of_decide_eq_true (by first | (with_reducible assumption) | assumption)
                have q234 : x5_1 < (l1.length : Int) := of_decide_eq_true (by first | (with_reducible assumption) | assumption)
                obtain ⟨ad234, e234, hx234_0⟩ := Kd.at_int HR1.out x5_1 p234 q234
                cases e234
                replace p234 := eq_true p234
                replace q234 := eq_true q234
                go_wp2
                repeat (go_quiet (fail); try go_wp2)
                go_ret
                exact ⟨by first | rfl | (simp; done) | (simp [*]; done), by repeat (first | exact Drawn0.refl _ | apply Drawn0.step)⟩
            · rw [if_neg c6] at H
              exact absurd H (by simp)
          · rw [if_neg c5] at H
            exact absurd H (by simp)
        · rw [if_neg c4] at H
          have c4b0 : decide (x5_1 < (l0.length : Int)) = false := decide_eq_false c4
          clear c4
          obtain rfl := Option.some.inj H
          go_wp2
          repeat (go_quiet (fail); try go_wp2)
          go_ret
          exact ⟨by first | rfl | (simp; done) | (simp [*]; done), by repeat (first | exact Drawn0.refl _ | apply Drawn0.step)⟩
  · rw [if_neg c3] at H
    have c3b0 : ((l0.length : Int) == (l1.length : Int)) = false := beq_eq_false_iff_ne.mpr c3
    have c3b1 : ((l0.length : Int) != (l1.length : Int)) = true := bne_iff_ne.mpr c3
    have c3b2 : (l0.length == l1.length) = false := by first | simpa using c3 | (simp at c3 ⊢; omega)
    obtain rfl := Option.some.inj H
    go_enter Try.func61, Try.ntmps61
    go_wp2
    repeat (go_quiet (fail); try go_wp2)
    go_ret
    exact ⟨by first | rfl | (simp; done) | (simp [*]; done), by repeat (first | exact Drawn0.refl _ | apply Drawn0.step)⟩
end Go.Proofs.Ytliohoalackhiaa.I
