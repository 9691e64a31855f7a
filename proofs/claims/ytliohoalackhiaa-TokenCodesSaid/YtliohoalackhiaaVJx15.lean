/- Written by a program of this repo (wip/tools/gprint.py): what functions of the Go program compute, the proofs that they do, and the rows of statements. Conditions: those in each theorem. -/
import Derived.Test.YtliohoalackhiaaVJx0
import Derived.Test.YtliohoalackhiaaVJx11
import Derived.Test.YtliohoalackhiaaVJx13
import Derived.Test.YtliohoalackhiaaVJx14
import Derived.Test.YtliohoalackhiaaVW
namespace Go.Proofs.Ytliohoalackhiaa.J
open Go.RowKit Go.Proofs.YtliohoalackhiaaW.PrintWords Go.Proofs.YtliohoalackhiaaW.PrintLast Go.Proofs.YtliohoalackhiaaW.PrintMore
attribute [local go_sem] max2_int min2_int max_two min_two max_three min_three max_four min_four   -- for this text's walks alone
set_option linter.unusedVariables false
set_option linter.unusedSimpArgs false
def scullerlaw14_Token.l0 : Nat → List Int → List Int → Int → Int → List Int → Int → Option (Int × List Int × Int × List Int)
  | 0, _, _, _, _, _, _ => none
  | k + 1, x1, x11, x12, x321000, x321001, x321002 => if x12 < (x1.length : Int) then (if 0 ≤ x12 then ((scullerref12_Chunks.f k x321000 x321001 x321002).bind fun t326 => (if (wrap64 (rd x1 x12)) < t326 then ((scullerref03_Set.f k x11 (wrap64 (rd x1 x12))).bind fun t328 => (scullerlaw14_Token.l0 k x1 t328 (wrap64 (x12 + 1)) x321000 x321001 x321002)) else (scullerlaw14_Token.l0 k x1 x11 (wrap64 (x12 + 1)) x321000 x321001 x321002))) else (none)) else (some (x321000, x321001, x321002, x11))
def scullerlaw14_Token.f (k : Nat) (a0 : Int) (l1 : List Int) (a2 : Int) (a3 : Int) : Option (Int × List Int × Int × List Int) := (scullerlaw12_Arena.f k l1 a2 a3).bind fun t311 => ((scullerref12_Of.f k a0 t311).bind fun bt314 => ((scullerref12_Chunks.f k bt314.1 bt314.2.1 bt314.2.2.1).bind fun t321 => ((scullerref03_Make.f k t321).bind fun t322 => (scullerlaw14_Token.l0 k l1 t322 0 bt314.1 bt314.2.1 bt314.2.2.1))))
def scullerlaw14_Token.T6 : Bool × List (List Nat × List Nat) := (true, [([], []), ([], []), ([0, 1], [0, 1]), ([2], [2]), ([3], [3]), ([], []), ([5], [5]), ([4, 6], [4, 6])])
def scullerlaw14_Token.B6 : List Nat := [0, 0, 3, 7, 15, 0, 32, 127]
theorem scullerlaw14_Token.tab6 : rtab .any (opsOf Try.f40 6) = scullerlaw14_Token.T6 := by kernel_rfl
theorem scullerlaw14_Token.bits6 : waitsOk scullerlaw14_Token.T6.2 scullerlaw14_Token.B6 = true := by kernel_rfl
set_option maxHeartbeats 8000000 in
set_option maxRecDepth 100000 in
theorem scullerlaw14_Token.calls (k : Nat) (a0 : Int) (A1 : Option Addr) (c1 : Nat) (l1 : List Int) (a2 : Int) (a3 : Int) (r1 : Int) (r2 : List Int) (r3 : Int) (r4 : List Int) (w : World) (hr1 : Kd.C (Kd.int .u8) w A1 l1.length l1) (hc1 : l1.length ≤ c1) (h : scullerlaw14_Token.f k a0 l1 a2 a3 = some (r1, r2, r3, r4)) :
    Calls Try.prog 40 #[.int .u64 a0, .slice A1 l1.length c1, .int .u8 a2, .int .u8 a3] w fun e w' => ∃ v1_ v3_ : Value, e = .returned (.agg #[.int .u64 r1, v1_, .int .u32 r3, v3_]) ∧ Kd.R (Kd.int .i64) 3 w' w.heap.size (fun _ => True) v1_ r2 ∧ Kd.R (Kd.int .u8) 5 w' w.heap.size (fun _ => True) v3_ r4 ∧ Below w.heap.size w w' := by
  have hu66 := Try.underlying66
  have hu45 := Try.underlying45
  have HR1 := Aside0.mk hr1
  have HC1 := Aside0.mk hc1
  clear hr1 hc1
  have HB := Aside0.mk (Below.refl w.heap.size w)
  have H : ((scullerlaw12_Arena.f k l1 a2 a3).bind fun t311 => ((scullerref12_Of.f k a0 t311).bind fun bt314 => ((scullerref12_Chunks.f k bt314.1 bt314.2.1 bt314.2.2.1).bind fun t321 => ((scullerref03_Make.f k t321).bind fun t322 => (scullerlaw14_Token.l0 k l1 t322 0 bt314.1 bt314.2.1 bt314.2.2.1))))) = some (r1, r2, r3, r4) := h
  clear h
  replace H := Option.bind_eq_some_iff.mp H
  obtain ⟨t311, A50, H⟩ := H
  replace H : ((scullerref12_Of.f k a0 t311).bind fun bt314 => ((scullerref12_Chunks.f k bt314.1 bt314.2.1 bt314.2.2.1).bind fun t321 => ((scullerref03_Make.f k t321).bind fun t322 => (scullerlaw14_Token.l0 k l1 t322 0 bt314.1 bt314.2.1 bt314.2.2.1)))) = some (r1, r2, r3, r4) := H
  have A5 := Aside0.mk A50
  clear A50
  replace H := Option.bind_eq_some_iff.mp H
  obtain ⟨⟨t314, t315, t318, t319⟩, A60, H⟩ := H
  replace H : ((scullerref12_Chunks.f k t314 t315 t318).bind fun t321 => ((scullerref03_Make.f k t321).bind fun t322 => (scullerlaw14_Token.l0 k l1 t322 0 t314 t315 t318))) = some (r1, r2, r3, r4) := H
  have A6 := Aside0.mk A60
  clear A60
  replace H := Option.bind_eq_some_iff.mp H
  obtain ⟨t321, A70, H⟩ := H
  replace H : ((scullerref03_Make.f k t321).bind fun t322 => (scullerlaw14_Token.l0 k l1 t322 0 t314 t315 t318)) = some (r1, r2, r3, r4) := H
  have A7 := Aside0.mk A70
  clear A70
  replace H := Option.bind_eq_some_iff.mp H
  obtain ⟨t322, A80, H⟩ := H
  replace H : (scullerlaw14_Token.l0 k l1 t322 0 t314 t315 t318) = some (r1, r2, r3, r4) := H
  have A8 := Aside0.mk A80
  clear A80
  have H' := Aside0.mk H
  clear H
  go_enter Try.func40, Try.ntmps40
  go_wp2_with (first | ((with_reducible refine gate_dst (N := 8) rfl ?_); refine box_event ?hg (N := 8) ?hd (cs := #[.int .u64 0, .slice none 0 0, .int .u32 0, .slice none 0 0]) (t := 66) ?hr ?_; (case hd => rfl); (case hg => rfl); (case hr => first | (go_simp; done) | (go_simp; rfl)); intro gb310 hg w9 hbox hb; have n0_ := Aside0.mk (below_step (Far.Bb HB.out) hb); have n1_ := Aside0.mk (hbox); have n2_ := Aside0.mk ((by rw [hg]; exact (below_size (Far.Bb HB.out)) : w.heap.size ≤ gb310)); have n3_ := Aside0.mk ((by rw [hg]; exact (below_size (Far.Bb HB.out)) : w.heap.size ≤ gb310)); clear HB; have HB := n0_; have BK310 := n1_; have GW310 := n2_; have GE310 := n3_; clear n0_ n1_ n2_ n3_; clear hb hbox hg) | ((with_reducible refine gate_callee (f := 26) rfl ?_); refine goesL_ (some 18) rfl rfl Try.func26 (by kernel_rfl) rfl #[.slice A1 l1.length c1, .int .u8 a2, .int .u8 a3] rfl (by (try simp only [List.map_toArray, List.map_cons, List.map_nil]); first | done | rfl | (simp only [List.length_drop, List.length_take]; rfl)) ?_; (with_reducible refine (scullerlaw12_Arena.calls k _ _ l1 a2 a3 t311 _ ?side1 ?side2 A5.out).mono ?_); (case side1 => repeat (first | exact (Kd.C_below HR1.out HB.out) | (with_reducible refine Kd.C_alloc ?_ _) | (with_reducible refine Kd.C_drewN ?_ _) | (with_reducible refine Kd.C_drew ?_))); (case side2 => exact HC1.out); rintro e w10 ⟨v312, rfl, ho0, hb⟩; refine ⟨_, rfl, ?_⟩; have n0_ := Aside0.mk (Kd.S_lower ho0 (below_size (by repeat (first | (with_reducible first | exact HB.out | apply below_alloc | apply pw_below_drewN | apply below_drew1 | refine below_set ?_ GE310.out) | exact HB.out)))); have n1_ := Aside0.mk (blk_below (g := gb310) (o := .cells #[.int .u64 0, .slice none 0 0, .int .u32 0, .slice none 0 0] 66 (0, 0)) (Far.Ba BK310.out) hb); have n2_ := Aside0.mk (below_step (by repeat (first | (with_reducible first | exact HB.out | apply below_alloc | apply pw_below_drewN | apply below_drew1 | refine below_set ?_ GE310.out) | exact HB.out)) hb); clear BK310 HB; have HO313 := n0_; have BK310 := n1_; have HB := n2_; clear n0_ n1_ n2_; (try clear hb); (try clear hb2); (try clear hk); (try clear hi); (try clear ho0); obtain ⟨Ao11, co11, eo11⟩ := Kd.S_slice HO313.out; subst eo11) | ((with_reducible refine gate_callee (f := 52) rfl ?_); refine goesL_ (some 19) rfl rfl Try.func52 (by kernel_rfl) rfl #[.int .u64 a0, .slice Ao11 t311.length co11] rfl (by (try simp only [List.map_toArray, List.map_cons, List.map_nil]); first | done | rfl | (simp only [List.length_drop, List.length_take]; rfl)) ?_; (with_reducible refine (scullerref12_Of.calls k a0 _ _ t311 t314 t315 t318 t319 _ ?side1 ?side2 A6.out).mono ?_); (case side1 => repeat (first | exact (Kd.S_reads' HO313.out).2.2 | (with_reducible refine Kd.C_alloc ?_ _) | (with_reducible refine Kd.C_drewN ?_ _) | (with_reducible refine Kd.C_drew ?_))); (case side2 => exact (Kd.S_reads' HO313.out).2.1); rintro e w12 ⟨v316, rfl, ho0, hb⟩; refine ⟨_, rfl, ?_⟩; have n0_ := Aside0.mk (Kd.S_below (by (with_reducible repeat (first | apply Kd.S_alloc | apply Kd.S_drewN | apply Kd.S_drew)); exact HO313.out) hb); have n1_ := Aside0.mk (Kd.R_lower ho0 (below_size (by repeat (first | (with_reducible first | exact HB.out | apply below_alloc | apply pw_below_drewN | apply below_drew1 | refine below_set ?_ GE310.out) | exact HB.out)))); have n2_ := Aside0.mk (blk_below (g := gb310) (o := .cells #[.int .u64 0, .slice none 0 0, .int .u32 0, .slice none 0 0] 66 (0, 0)) (Far.Ba BK310.out) hb); have n3_ := Aside0.mk (below_step (by repeat (first | (with_reducible first | exact HB.out | apply below_alloc | apply pw_below_drewN | apply below_drew1 | refine below_set ?_ GE310.out) | exact HB.out)) hb); clear HO313 BK310 HB; have HO313 := n0_; have HO317 := n1_; have BK310 := n2_; have HB := n3_; clear n0_ n1_ n2_ n3_; (try clear hb); (try clear hb2); (try clear hk); (try clear hi); (try clear ho0)) | ((with_reducible refine gate_dst (N := 9) rfl ?_); refine box_event ?hg (N := 9) ?hd (cs := #[.int .u64 0, .slice none 0 0, .int .u32 0]) (t := 45) ?hr ?_; (case hd => rfl); (case hg => rfl); (case hr => first | (go_simp; done) | (go_simp; rfl)); intro gb320 hg w13 hbox hb; have n0_ := Aside0.mk (Kd.S_below (by (with_reducible repeat (first | apply Kd.S_alloc | apply Kd.S_drewN | apply Kd.S_drew)); exact HO313.out) hb); have n1_ := Aside0.mk (Kd.R_below (Far.Ra HO317.out) hb); have n2_ := Aside0.mk (blk_below (g := gb310) (o := .cells #[.int .u64 0, .slice none 0 0, .int .u32 0, .slice none 0 0] 66 (0, 0)) (Far.Ba BK310.out) hb); have n3_ := Aside0.mk (below_step (by repeat (first | (with_reducible first | exact HB.out | apply below_alloc | apply pw_below_drewN | apply below_drew1 | refine below_set ?_ GE310.out) | exact HB.out)) hb); have n4_ := Aside0.mk (hbox); have n5_ := Aside0.mk ((by rw [hg]; exact (below_size (by repeat (first | (with_reducible first | exact HB.out | apply below_alloc | apply pw_below_drewN | apply below_drew1 | refine below_set ?_ GE310.out) | exact HB.out))) : w.heap.size ≤ gb320)); have n6_ := Aside0.mk ((by rw [hg]; exact (below_size (by repeat (first | (with_reducible first | exact HB.out | apply below_alloc | apply pw_below_drewN | apply below_drew1 | refine below_set ?_ GE310.out) | exact HB.out))) : w.heap.size ≤ gb320)); have n7_ := Aside0.mk ((by rw [hg]; exact Nat.ne_of_lt (blk_lt (g := gb310) (o := .cells #[.int .u64 0, .slice none 0 0, .int .u32 0, .slice none 0 0] 66 (0, 0)) (Far.Ba BK310.out)) : gb310 ≠ gb320)); have n8_ := Aside0.mk ((by rw [hg]; exact Nat.ne_of_gt (blk_lt (g := gb310) (o := .cells #[.int .u64 0, .slice none 0 0, .int .u32 0, .slice none 0 0] 66 (0, 0)) (Far.Ba BK310.out)) : gb320 ≠ gb310)); clear HO313 HO317 BK310 HB; have HO313 := n0_; have HO317 := n1_; have BK310 := n2_; have HB := n3_; have BK320 := n4_; have GW320 := n5_; have GE320 := n6_; have NB310_320 := n7_; have NB320_310 := n8_; clear n0_ n1_ n2_ n3_ n4_ n5_ n6_ n7_ n8_; clear hb hbox hg; have hnb14 := NB320_310.out; have hnc14 := NB310_320.out; have hcz15_0 : w13.cell? ⟨gb320, 0, none⟩ = some (.int .u64 0) := (blk_cell BK320.out 0).trans rfl; have hcz15_1 : w13.cell? ⟨gb320, 1, none⟩ = some (.slice none 0 0) := (blk_cell BK320.out 1).trans rfl; have hcz15_2 : w13.cell? ⟨gb320, 2, none⟩ = some (.int .u32 0) := (blk_cell BK320.out 2).trans rfl; have hfz15_0 := blk_frozen BK320.out 0; have hfz15_1 := blk_frozen BK320.out 1; have hfz15_2 := blk_frozen BK320.out 2; obtain ⟨Ao16, co16, eo16⟩ := Kd.R_slice HO317.out; subst eo16) | ((with_reducible refine gate_callee (f := 97) rfl ?_); refine goesL_ (some 23) rfl rfl Try.func97 (by kernel_rfl) rfl #[.agg #[.int .u64 t314, .slice Ao16 t315.length co16, .int .u32 t318]] rfl (by (try simp only [List.map_toArray, List.map_cons, List.map_nil]); first | done | rfl | (simp only [List.length_drop, List.length_take]; rfl)) ?_; (with_reducible refine (scullerref12_Chunks.calls k t314 _ _ t315 t318 t321 _ ?side1 ?side2 A7.out).mono ?_); (case side1 => refine (Kd.R_reads' (e := 3) (base := w.heap.size) (ok := fun k_ => True) (n := t315.length) (c := co16) ?_).2.2; exact (Far.Ra (Kd.R_mono (Kd.R_far (p := ⟨gb320, 2, none⟩) (Kd.R_far (p := ⟨gb320, 1, none⟩) (Kd.R_far (p := ⟨gb320, 0, none⟩) (Kd.R_types HO317.out BK320.out (by decide)) (fun _ hk => hk.2) (.int .u64 t314)) (fun _ hk => hk.2) (.slice Ao16 t315.length co16)) (fun _ hk => hk.2) (.int .u32 t318)) (fun _ h_ => h_.1)))); (case side2 => exact (Kd.R_reads' HO317.out).2.1); rintro e w17 ⟨rfl, hb⟩; refine ⟨_, rfl, ?_⟩; have n0_ := Aside0.mk (Kd.S_below (by (with_reducible repeat (first | apply Kd.S_alloc | apply Kd.S_drewN | apply Kd.S_drew)); exact (Kd.S_mono (Kd.S_far (p := ⟨gb320, 2, none⟩) (Kd.S_far (p := ⟨gb320, 1, none⟩) (Kd.S_far (p := ⟨gb320, 0, none⟩) (Kd.S_types HO313.out BK320.out (by decide)) (fun _ hk => hk.2) (.int .u64 t314)) (fun _ hk => hk.2) (.slice Ao16 t315.length co16)) (fun _ hk => hk.2) (.int .u32 t318)) (fun _ h_ => h_.1))) hb); have n1_ := Aside0.mk (Kd.R_below (Far.Ra (Kd.R_mono (Kd.R_far (p := ⟨gb320, 2, none⟩) (Kd.R_far (p := ⟨gb320, 1, none⟩) (Kd.R_far (p := ⟨gb320, 0, none⟩) (Kd.R_types HO317.out BK320.out (by decide)) (fun _ hk => hk.2) (.int .u64 t314)) (fun _ hk => hk.2) (.slice Ao16 t315.length co16)) (fun _ hk => hk.2) (.int .u32 t318)) (fun _ h_ => h_.1))) hb); have n2_ := Aside0.mk (blk_below (g := gb310) (o := .cells #[.int .u64 0, .slice none 0 0, .int .u32 0, .slice none 0 0] 66 (0, 0)) (by (with_reducible repeat (first | refine blk_drewN ?_ _ | refine blk_drew ?_ | refine blk_alloc ?_ _)); refine blk_far ?_ NB310_320.out _; (with_reducible repeat (first | refine blk_drewN ?_ _ | refine blk_drew ?_ | refine blk_alloc ?_ _)); refine blk_far ?_ NB310_320.out _; (with_reducible repeat (first | refine blk_drewN ?_ _ | refine blk_drew ?_ | refine blk_alloc ?_ _)); refine blk_far ?_ NB310_320.out _; (with_reducible repeat (first | refine blk_drewN ?_ _ | refine blk_drew ?_ | refine blk_alloc ?_ _)); exact BK310.out) hb); have n3_ := Aside0.mk (blk_below (g := gb320) (o := .cells #[.int .u64 t314, .slice Ao16 t315.length co16, .int .u32 t318] 45 (0, 0)) (by (with_reducible repeat (first | refine blk_drewN ?_ _ | refine blk_drew ?_ | refine blk_alloc ?_ _)); refine blk_put (cs := #[.int .u64 t314, .slice Ao16 t315.length co16, .int .u32 0]) ?_ 2 _ rfl; (with_reducible repeat (first | refine blk_drewN ?_ _ | refine blk_drew ?_ | refine blk_alloc ?_ _)); refine blk_put (cs := #[.int .u64 t314, .slice none 0 0, .int .u32 0]) ?_ 1 _ rfl; (with_reducible repeat (first | refine blk_drewN ?_ _ | refine blk_drew ?_ | refine blk_alloc ?_ _)); refine blk_put (cs := #[.int .u64 0, .slice none 0 0, .int .u32 0]) ?_ 0 _ rfl; (with_reducible repeat (first | refine blk_drewN ?_ _ | refine blk_drew ?_ | refine blk_alloc ?_ _)); exact BK320.out) hb); have n4_ := Aside0.mk (below_step (by repeat (first | (with_reducible first | exact HB.out | apply below_alloc | apply pw_below_drewN | apply below_drew1 | refine below_set ?_ GE310.out | refine below_set ?_ GE320.out) | exact HB.out)) hb); clear HO313 HO317 BK310 BK320 HB; have HO313 := n0_; have HO317 := n1_; have BK310 := n2_; have BK320 := n3_; have HB := n4_; clear n0_ n1_ n2_ n3_ n4_; (try clear hb); (try clear hb2); (try clear hk); (try clear hi)) | ((with_reducible refine gate_callee (f := 96) rfl ?_); refine goesL_ (some 24) rfl rfl Try.func96 (by kernel_rfl) rfl #[.int .i64 t321] rfl (by (try simp only [List.map_toArray, List.map_cons, List.map_nil]); first | done | rfl | (simp only [List.length_drop, List.length_take]; rfl)) ?_; (with_reducible refine (scullerref03_Make.calls k t321 t322 _ A8.out).mono ?_); rintro e w18 ⟨v323, rfl, ho0, hb⟩; refine ⟨_, rfl, ?_⟩; have n0_ := Aside0.mk (Kd.S_below (by (with_reducible repeat (first | apply Kd.S_alloc | apply Kd.S_drewN | apply Kd.S_drew)); exact HO313.out) hb); have n1_ := Aside0.mk (Kd.R_below (Far.Ra HO317.out) hb); have n2_ := Aside0.mk (Kd.R_lower ho0 (below_size (by repeat (first | (with_reducible first | exact HB.out | apply below_alloc | apply pw_below_drewN | apply below_drew1 | refine below_set ?_ GE310.out | refine below_set ?_ GE320.out) | exact HB.out)))); have n3_ := Aside0.mk (blk_below (g := gb310) (o := .cells #[.int .u64 0, .slice none 0 0, .int .u32 0, .slice none 0 0] 66 (0, 0)) (Far.Ba BK310.out) hb); have n4_ := Aside0.mk (blk_below (g := gb320) (o := .cells #[.int .u64 t314, .slice Ao16 t315.length co16, .int .u32 t318] 45 (0, 0)) (Far.Ba BK320.out) hb); have n5_ := Aside0.mk (below_step (by repeat (first | (with_reducible first | exact HB.out | apply below_alloc | apply pw_below_drewN | apply below_drew1 | refine below_set ?_ GE310.out | refine below_set ?_ GE320.out) | exact HB.out)) hb); clear HO313 HO317 BK310 BK320 HB; have HO313 := n0_; have HO317 := n1_; have HO324 := n2_; have BK310 := n3_; have BK320 := n4_; have HB := n5_; clear n0_ n1_ n2_ n3_ n4_ n5_; (try clear hb); (try clear hb2); (try clear hk); (try clear hi); (try clear ho0)))
  go_loopg [11, 12] k (fun kq v11 v12 w' => ∃ (x11_1 : List Int) (x12_1 : Int), v12 = .int .i64 x12_1 ∧ Aside0 (scullerlaw14_Token.l0 kq l1 x11_1 x12_1 t314 t315 t318 = some (r1, r2, r3, r4)) ∧ Aside0 (kq ≤ k) ∧ Aside0 (Kd.R (Kd.int .u8) 5 w' w.heap.size (fun _ => True) v11 x11_1) ∧ Aside0 (Kd.R (Kd.int .i64) 3 w' w.heap.size (fun _ => True) (.slice Ao16 t315.length co16) t315) ∧ Aside0 (w'.heap[gb310]? = some (.cells #[.int .u64 0, (.slice none 0 0), .int .u32 0, (.slice none 0 0)] 66 (0, 0))) ∧ Aside0 (w'.heap[gb320]? = some (.cells #[.int .u64 t314, (.slice Ao16 t315.length co16), .int .u32 t318] 45 (0, 0))) ∧ Aside0 (Below w.heap.size w w'))
  case atStart => exact ⟨(t322), (0), (by first | rfl | (simp; done) | (simp [*]; done)), H', ⟨Nat.le_refl _⟩, ⟨by (with_reducible repeat (first | apply Kd.R_alloc | apply Kd.R_drewN | apply Kd.R_drew)); exact HO324.out⟩, ⟨by (with_reducible repeat (first | apply Kd.R_alloc | apply Kd.R_drewN | apply Kd.R_drew)); exact HO317.out⟩, ⟨by (with_reducible repeat (first | refine blk_drewN ?_ _ | refine blk_drew ?_ | refine blk_alloc ?_ _)); exact BK310.out⟩, ⟨by (with_reducible repeat (first | refine blk_drewN ?_ _ | refine blk_drew ?_ | refine blk_alloc ?_ _)); exact BK320.out⟩, ⟨by repeat (first | (with_reducible first | exact HB.out | apply below_alloc | apply pw_below_drewN | apply below_drew1 | refine below_set ?_ GE310.out | refine below_set ?_ GE320.out) | exact HB.out)⟩⟩
  case round =>
    clear H'; (try clear c1); (try clear c2); (try clear p2); (try clear c4); (try clear c5); (try clear c9); (try clear c14); (try clear hcz15_0); (try clear hcz15_1); (try clear hcz15_2); (try clear hfz15_0); (try clear hfz15_1); (try clear hfz15_2)
    obtain ⟨x11_1, x12_1, rfl, HA, HK1, HO_11, HO_321001, BK310, BK320, HB⟩ := hrel
    cases gk with
    | zero => exact absurd HA.out (by simp [scullerlaw14_Token.l0])
    | succ k1 =>
      have H := HA.out
      clear HA
      simp only [scullerlaw14_Token.l0] at H
      by_cases c19 : x12_1 < (l1.length : Int)
      · rw [if_pos c19] at H
        have c19b0 : decide (x12_1 < (l1.length : Int)) = true := decide_eq_true c19
        clear c19
        by_cases c20 : 0 ≤ x12_1
        · rw [if_pos c20] at H
          have c20b0 : decide (0 ≤ x12_1) = true := decide_eq_true c20
          clear c20
          replace H := Option.bind_eq_some_iff.mp H
          obtain ⟨t326, A210, H⟩ := H
          replace H : (if (wrap64 (rd l1 x12_1)) < t326 then ((scullerref03_Set.f k1 x11_1 (wrap64 (rd l1 x12_1))).bind fun t328 => (scullerlaw14_Token.l0 k1 l1 t328 (wrap64 (x12_1 + 1)) t314 t315 t318)) else (scullerlaw14_Token.l0 k1 l1 x11_1 (wrap64 (x12_1 + 1)) t314 t315 t318)) = some (r1, r2, r3, r4) := H
          have A21 := Aside0.mk A210
          clear A210
          by_cases c22 : (wrap64 (rd l1 x12_1)) < t326
          · rw [if_pos c22] at H
            have c22b0 : decide ((wrap64 (rd l1 x12_1)) < t326) = true := decide_eq_true c22
            clear c22
            replace H := Option.bind_eq_some_iff.mp H
            obtain ⟨t328, A230, H⟩ := H
            replace H : (scullerlaw14_Token.l0 k1 l1 t328 (wrap64 (x12_1 + 1)) t314 t315 t318) = some (r1, r2, r3, r4) := H
            have A23 := Aside0.mk A230
            clear A230
            have H' := Aside0.mk H
            clear H
            try go_wp2
            have n0_ := Aside0.mk (Kd.R_drew HO_11.out)
            have n1_ := Aside0.mk (Kd.R_drew HO_321001.out)
            have n2_ := Aside0.mk (blk_drew BK310.out)
            have n3_ := Aside0.mk (blk_drew BK320.out)
            have n4_ := Aside0.mk (below_drew1 HB.out)
            clear HO_11 HO_321001 BK310 BK320 HB
            have HO_11 := n0_
            have HO_321001 := n1_
            have BK310 := n2_
            have BK320 := n3_
            have HB := n4_
            clear n0_ n1_ n2_ n3_ n4_
            have p325 : 0 ≤ (x12_1 : Int) := of_decide_eq_true (by first | (with_reducible assumption) | assumption)
            have q325 : x12_1 < (l1.length : Int) := of_decide_eq_true (by first | (with_reducible assumption) | assumption)
            obtain ⟨ad325, e325, hx325_0⟩ := Kd.at_int HR1.out x12_1 p325 q325
            have hw325_0 := hx325_0
            cases e325
            replace hx325_0 := (HB.out.cell (World.block_lt_of_cell? w _ hx325_0)).trans hx325_0
            replace p325 := eq_true p325
            replace q325 := eq_true q325
            refine start_ (n := 8) (S := fun w' => w'.cell? ⟨gb320, 0, none⟩ = some (.int .u64 t314) ∧ w'.cell? ⟨gb320, 1, none⟩ = some (.slice Ao16 t315.length co16) ∧ w'.cell? ⟨gb320, 2, none⟩ = some (.int .u32 t318) ∧ w'.cell? (ad325.add (x12_1).toNat) = some (.int .u8 (rd l1 x12_1))) (ds := []) #[false, false, false, false, false, false, false, false] (by kernel_rfl) rfl rfl ⟨(blk_cell BK320.out 0).trans rfl, (blk_cell BK320.out 1).trans rfl, (blk_cell BK320.out 2).trans rfl, ((HB.out.cell (World.block_lt_of_cell? w _ hw325_0)).trans hw325_0)⟩ (fun hHeld => ?_); refine with_tabW scullerlaw14_Token.tab6 scullerlaw14_Token.bits6 (fun HT_ HW_ => ?_)
            generalize wr.drew = w24 at HO_11 HO_321001 BK310 BK320 HB hx325_0 hHeld ⊢
            refine pure_ (i := 0) (N := some 31) (v := ?_) (a' := ?_) #[true, false, false, false, false, false, false, false] rfl rfl (any_of HT_.out (by kernel_rfl)) (fun _ _ _ h => h) (Or.inl ⟨by rfl, ?_⟩) ?_ ?_; rotate_left; (intro w'; go_simp; with_reducible rfl); rotate_left; (simp only [Act.put, List.setIfInBounds_toArray, List.set_cons_zero, List.set_cons_succ, i64_w, i32_w]; rfl)
            refine pure_ (i := 1) (N := some 32) (v := ?_) (a' := ?_) #[true, true, false, false, false, false, false, false] rfl rfl (any_of HT_.out (by kernel_rfl)) (fun _ _ _ h => h) (Or.inl ⟨by rfl, ?_⟩) ?_ ?_; rotate_left; (intro w'; go_simp; with_reducible rfl); rotate_left; (simp only [Act.put, List.setIfInBounds_toArray, List.set_cons_zero, List.set_cons_succ, i64_w, i32_w]; rfl)
            refine pure_ (i := 2) (N := some 33) (v := ?_) (a' := ?_) #[true, true, true, false, false, false, false, false] rfl rfl (any_of HT_.out (by kernel_rfl)) (fun _ _ _ h => h) (Or.inl ⟨by rfl, ?_⟩) ?_ ?_; rotate_left; (intro w'; go_simp; with_reducible rfl); rotate_left; (simp only [Act.put, List.setIfInBounds_toArray, List.set_cons_zero, List.set_cons_succ, i64_w, i32_w]; rfl)
            refine take_ (i := 3) (N := some 34) (v := ?_) (a' := ?_) #[true, true, true, true, false, false, false, false] rfl rfl (take_ofW HT_.out HW_.out (by kernel_rfl)) (fun _ _ _ h => h) (Or.inl ⟨by rfl, ?_⟩) hHeld ?_ ?_; rotate_left; (rintro w' ⟨s0, s1, s2, s3⟩; go_simp; with_reducible rfl); rotate_left; (simp only [Act.put, List.setIfInBounds_toArray, List.set_cons_zero, List.set_cons_succ, i64_w, i32_w]; rfl)
            refine pure_ (i := 4) (N := some 35) (v := ?_) (a' := ?_) #[true, true, true, true, true, false, false, false] rfl rfl (any_of HT_.out (by kernel_rfl)) (fun _ _ _ h => h) (Or.inl ⟨by rfl, ?_⟩) ?_ ?_; rotate_left; (intro w'; go_simp; with_reducible rfl); rotate_left; (simp only [Act.put, List.setIfInBounds_toArray, List.set_cons_zero, List.set_cons_succ, i64_w, i32_w]; rfl)
            refine take_ (i := 5) (N := some 36) (v := ?_) (a' := ?_) #[true, true, true, true, true, true, false, false] rfl rfl (take_ofW HT_.out HW_.out (by kernel_rfl)) (fun _ _ _ h => h) (Or.inl ⟨by rfl, ?_⟩) hHeld ?_ ?_; rotate_left; (rintro w' ⟨s0, s1, s2, s3⟩; go_simp; with_reducible rfl); rotate_left; (simp only [Act.put, List.setIfInBounds_toArray, List.set_cons_zero, List.set_cons_succ, i64_w, i32_w]; rfl)
            refine one_ (i := 6) (N := some 37) #[true, true, true, true, true, true, true, false] rfl rfl (one_of HT_.out (by kernel_rfl)) (by decide) (fun K hK => ?_)
            refine goes_ Try.func97 (by kernel_rfl) rfl #[.agg #[.int .u64 t314, .slice Ao16 t315.length co16, .int .u32 t318]] (by rfl) rfl rfl (by (try simp only [List.map_toArray, List.map_cons, List.map_nil]); first | done | rfl | (simp only [List.length_drop, List.length_take]; rfl)) ?_
            with_reducible refine (scullerref12_Chunks.calls k1 t314 _ _ t315 t318 t326 _ ?side1 ?side2 A21.out).mono ?_
            (case side1 => repeat (first | exact (Kd.R_reads' HO_321001.out).2.2 | (with_reducible refine Kd.C_alloc ?_ _) | (with_reducible refine Kd.C_drewN ?_ _) | (with_reducible refine Kd.C_drew ?_)))
            (case side2 => exact (Kd.R_reads' HO_321001.out).2.1)
            rintro e w25 ⟨rfl, hb⟩
            refine ⟨_, rfl, ?_⟩
            have n0_ := Aside0.mk (Kd.R_below (Far.Ra HO_11.out) hb)
            have n1_ := Aside0.mk (Kd.R_below (Far.Ra HO_321001.out) hb)
            have n2_ := Aside0.mk (blk_below (g := gb310) (o := .cells #[.int .u64 0, .slice none 0 0, .int .u32 0, .slice none 0 0] 66 (0, 0)) (Far.Ba BK310.out) hb)
            have n3_ := Aside0.mk (blk_below (g := gb320) (o := .cells #[.int .u64 t314, .slice Ao16 t315.length co16, .int .u32 t318] 45 (0, 0)) (Far.Ba BK320.out) hb)
            have n4_ := Aside0.mk (below_step (by repeat (first | (with_reducible first | exact HB.out | apply below_alloc | apply pw_below_drewN | apply below_drew1 | refine below_set ?_ GE310.out | refine below_set ?_ GE320.out) | exact HB.out)) hb)
            clear HO_11 HO_321001 BK310 BK320 HB
            have HO_11 := n0_
            have HO_321001 := n1_
            have BK310 := n2_
            have BK320 := n3_
            have HB := n4_
            clear n0_ n1_ n2_ n3_ n4_
            (try clear hb)
            (try clear hb2)
            (try clear hk)
            (try clear hi)
            refine hK.out _ _ ⟨(blk_cell BK320.out 0).trans rfl, (blk_cell BK320.out 1).trans rfl, (blk_cell BK320.out 2).trans rfl, ((HB.out.cell (World.block_lt_of_cell? w _ hw325_0)).trans hw325_0)⟩ (fun hHeld => ?_)
            clear hK K
            refine norm_ (a' := ?_) ?_ ?_
            rotate_left
            · show Act.put _ (some 37) _ = _
              simp only [Act.put, List.setIfInBounds_toArray, List.set_cons_zero, List.set_cons_succ, i64_w, i32_w]
              rfl
            refine pure_ (i := 7) (N := some 38) (v := ?_) (a' := ?_) #[true, true, true, true, true, true, true, true] rfl rfl (any_of HT_.out (by kernel_rfl)) (fun _ _ _ h => h) (Or.inl ⟨by rfl, ?_⟩) ?_ ?_; rotate_left; (intro w'; go_simp; with_reducible rfl); rotate_left; (simp only [Act.put, List.setIfInBounds_toArray, List.set_cons_zero, List.set_cons_succ, i64_w, i32_w]; rfl)
            refine done_ (done_of HT_.out (by kernel_rfl)) ?_
            have p327 : 0 ≤ (x12_1 : Int) := of_decide_eq_true (by first | (with_reducible assumption) | assumption)
            have q327 : x12_1 < (l1.length : Int) := of_decide_eq_true (by first | (with_reducible assumption) | assumption)
            obtain ⟨ad327, e327, hx327_0⟩ := Kd.at_int HR1.out x12_1 p327 q327
            obtain rfl : ad325 = ad327 := (by injection e327)
            replace hx327_0 := (HB.out.cell (World.block_lt_of_cell? w _ hx327_0)).trans hx327_0
            replace p327 := eq_true p327
            replace q327 := eq_true q327
            obtain ⟨Ao26, co26, eo26⟩ := Kd.R_slice HO_11.out
            subst eo26
            try go_wp2_with (first | ((with_reducible refine gate_callee (f := 98) rfl ?_); refine goesL_ (some 45) rfl rfl Try.func98 (by kernel_rfl) rfl #[.slice Ao26 x11_1.length co26, .int .i64 (wrap64 (rd l1 x12_1))] rfl (by (try simp only [List.map_toArray, List.map_cons, List.map_nil]); first | done | rfl | (simp only [List.length_drop, List.length_take]; rfl)) ?_; (with_reducible refine (scullerref03_Set.calls k1 _ _ x11_1 (wrap64 (rd l1 x12_1)) t328 _ ?side1 ?side2 A23.out).mono ?_); (case side1 => repeat (first | exact (Kd.R_reads' HO_11.out).2.2 | (with_reducible refine Kd.C_alloc ?_ _) | (with_reducible refine Kd.C_drewN ?_ _) | (with_reducible refine Kd.C_drew ?_))); (case side2 => exact (Kd.R_reads' HO_11.out).2.1); rintro e w27 ⟨v329, rfl, ho0, hb⟩; refine ⟨_, rfl, ?_⟩; have n0_ := Aside0.mk (Kd.R_elder' (Far.Ra HO_11.out) (Kd.R_base ho0) hb); have n1_ := Aside0.mk (Kd.R_below (Far.Ra HO_321001.out) hb); have n2_ := Aside0.mk (Kd.R_lower (Kd.R_new' ho0 (Kd.R_lt (Far.Ra HO_11.out))) (below_size (by repeat (first | (with_reducible first | exact HB.out | apply below_alloc | apply pw_below_drewN | apply below_drew1 | refine below_set ?_ GE310.out | refine below_set ?_ GE320.out) | exact HB.out)))); have n3_ := Aside0.mk (blk_below (g := gb310) (o := .cells #[.int .u64 0, .slice none 0 0, .int .u32 0, .slice none 0 0] 66 (0, 0)) (Far.Ba BK310.out) hb); have n4_ := Aside0.mk (blk_below (g := gb320) (o := .cells #[.int .u64 t314, .slice Ao16 t315.length co16, .int .u32 t318] 45 (0, 0)) (Far.Ba BK320.out) hb); have n5_ := Aside0.mk (below_step (by repeat (first | (with_reducible first | exact HB.out | apply below_alloc | apply pw_below_drewN | apply below_drew1 | refine below_set ?_ GE310.out | refine below_set ?_ GE320.out) | exact HB.out)) hb); clear HO_11 HO_321001 BK310 BK320 HB; have HO_11 := n0_; have HO_321001 := n1_; have HO330 := n2_; have BK310 := n3_; have BK320 := n4_; have HB := n5_; clear n0_ n1_ n2_ n3_ n4_ n5_; (try clear hb); (try clear hb2); (try clear hk); (try clear hi); (try clear ho0)))
            go_roundg k1
            case measure => have := HK1.out; omega
            case rel => exact ⟨(t328), (wrap64 (x12_1 + 1)), (by first | rfl | (simp; done) | (simp [*]; done)), H', ⟨by have := HK1.out; omega⟩, ⟨by (with_reducible repeat (first | apply Kd.R_alloc | apply Kd.R_drewN | apply Kd.R_drew)); exact Kd.R_mono HO330.out (fun _ hk => trivial)⟩, ⟨by (with_reducible repeat (first | apply Kd.R_alloc | apply Kd.R_drewN | apply Kd.R_drew)); exact HO_321001.out⟩, ⟨by (with_reducible repeat (first | refine blk_drewN ?_ _ | refine blk_drew ?_ | refine blk_alloc ?_ _)); exact BK310.out⟩, ⟨by (with_reducible repeat (first | refine blk_drewN ?_ _ | refine blk_drew ?_ | refine blk_alloc ?_ _)); exact BK320.out⟩, ⟨by repeat (first | (with_reducible first | exact HB.out | apply below_alloc | apply pw_below_drewN | apply below_drew1 | refine below_set ?_ GE310.out | refine below_set ?_ GE320.out) | exact HB.out)⟩⟩
          · rw [if_neg c22] at H
            have c22b0 : decide ((wrap64 (rd l1 x12_1)) < t326) = false := decide_eq_false c22
            clear c22
            have H' := Aside0.mk H
            clear H
            try go_wp2
            have n0_ := Aside0.mk (Kd.R_drew HO_11.out)
            have n1_ := Aside0.mk (Kd.R_drew HO_321001.out)
            have n2_ := Aside0.mk (blk_drew BK310.out)
            have n3_ := Aside0.mk (blk_drew BK320.out)
            have n4_ := Aside0.mk (below_drew1 HB.out)
            clear HO_11 HO_321001 BK310 BK320 HB
            have HO_11 := n0_
            have HO_321001 := n1_
            have BK310 := n2_
            have BK320 := n3_
            have HB := n4_
            clear n0_ n1_ n2_ n3_ n4_
            have p325 : 0 ≤ (x12_1 : Int) := of_decide_eq_true (by first | (with_reducible assumption) | assumption)
            have q325 : x12_1 < (l1.length : Int) := of_decide_eq_true (by first | (with_reducible assumption) | assumption)
            obtain ⟨ad325, e325, hx325_0⟩ := Kd.at_int HR1.out x12_1 p325 q325
            have hw325_0 := hx325_0
            cases e325
            replace hx325_0 := (HB.out.cell (World.block_lt_of_cell? w _ hx325_0)).trans hx325_0
            replace p325 := eq_true p325
            replace q325 := eq_true q325
            refine start_ (n := 8) (S := fun w' => w'.cell? ⟨gb320, 0, none⟩ = some (.int .u64 t314) ∧ w'.cell? ⟨gb320, 1, none⟩ = some (.slice Ao16 t315.length co16) ∧ w'.cell? ⟨gb320, 2, none⟩ = some (.int .u32 t318) ∧ w'.cell? (ad325.add (x12_1).toNat) = some (.int .u8 (rd l1 x12_1))) (ds := []) #[false, false, false, false, false, false, false, false] (by kernel_rfl) rfl rfl ⟨(blk_cell BK320.out 0).trans rfl, (blk_cell BK320.out 1).trans rfl, (blk_cell BK320.out 2).trans rfl, ((HB.out.cell (World.block_lt_of_cell? w _ hw325_0)).trans hw325_0)⟩ (fun hHeld => ?_); refine with_tabW scullerlaw14_Token.tab6 scullerlaw14_Token.bits6 (fun HT_ HW_ => ?_)
            generalize wr.drew = w28 at HO_11 HO_321001 BK310 BK320 HB hx325_0 hHeld ⊢
            refine pure_ (i := 0) (N := some 31) (v := ?_) (a' := ?_) #[true, false, false, false, false, false, false, false] rfl rfl (any_of HT_.out (by kernel_rfl)) (fun _ _ _ h => h) (Or.inl ⟨by rfl, ?_⟩) ?_ ?_; rotate_left; (intro w'; go_simp; with_reducible rfl); rotate_left; (simp only [Act.put, List.setIfInBounds_toArray, List.set_cons_zero, List.set_cons_succ, i64_w, i32_w]; rfl)
            refine pure_ (i := 1) (N := some 32) (v := ?_) (a' := ?_) #[true, true, false, false, false, false, false, false] rfl rfl (any_of HT_.out (by kernel_rfl)) (fun _ _ _ h => h) (Or.inl ⟨by rfl, ?_⟩) ?_ ?_; rotate_left; (intro w'; go_simp; with_reducible rfl); rotate_left; (simp only [Act.put, List.setIfInBounds_toArray, List.set_cons_zero, List.set_cons_succ, i64_w, i32_w]; rfl)
            refine pure_ (i := 2) (N := some 33) (v := ?_) (a' := ?_) #[true, true, true, false, false, false, false, false] rfl rfl (any_of HT_.out (by kernel_rfl)) (fun _ _ _ h => h) (Or.inl ⟨by rfl, ?_⟩) ?_ ?_; rotate_left; (intro w'; go_simp; with_reducible rfl); rotate_left; (simp only [Act.put, List.setIfInBounds_toArray, List.set_cons_zero, List.set_cons_succ, i64_w, i32_w]; rfl)
            refine take_ (i := 3) (N := some 34) (v := ?_) (a' := ?_) #[true, true, true, true, false, false, false, false] rfl rfl (take_ofW HT_.out HW_.out (by kernel_rfl)) (fun _ _ _ h => h) (Or.inl ⟨by rfl, ?_⟩) hHeld ?_ ?_; rotate_left; (rintro w' ⟨s0, s1, s2, s3⟩; go_simp; with_reducible rfl); rotate_left; (simp only [Act.put, List.setIfInBounds_toArray, List.set_cons_zero, List.set_cons_succ, i64_w, i32_w]; rfl)
            refine pure_ (i := 4) (N := some 35) (v := ?_) (a' := ?_) #[true, true, true, true, true, false, false, false] rfl rfl (any_of HT_.out (by kernel_rfl)) (fun _ _ _ h => h) (Or.inl ⟨by rfl, ?_⟩) ?_ ?_; rotate_left; (intro w'; go_simp; with_reducible rfl); rotate_left; (simp only [Act.put, List.setIfInBounds_toArray, List.set_cons_zero, List.set_cons_succ, i64_w, i32_w]; rfl)
            refine take_ (i := 5) (N := some 36) (v := ?_) (a' := ?_) #[true, true, true, true, true, true, false, false] rfl rfl (take_ofW HT_.out HW_.out (by kernel_rfl)) (fun _ _ _ h => h) (Or.inl ⟨by rfl, ?_⟩) hHeld ?_ ?_; rotate_left; (rintro w' ⟨s0, s1, s2, s3⟩; go_simp; with_reducible rfl); rotate_left; (simp only [Act.put, List.setIfInBounds_toArray, List.set_cons_zero, List.set_cons_succ, i64_w, i32_w]; rfl)
            refine one_ (i := 6) (N := some 37) #[true, true, true, true, true, true, true, false] rfl rfl (one_of HT_.out (by kernel_rfl)) (by decide) (fun K hK => ?_)
            refine goes_ Try.func97 (by kernel_rfl) rfl #[.agg #[.int .u64 t314, .slice Ao16 t315.length co16, .int .u32 t318]] (by rfl) rfl rfl (by (try simp only [List.map_toArray, List.map_cons, List.map_nil]); first | done | rfl | (simp only [List.length_drop, List.length_take]; rfl)) ?_
            with_reducible refine (scullerref12_Chunks.calls k1 t314 _ _ t315 t318 t326 _ ?side1 ?side2 A21.out).mono ?_
            (case side1 => repeat (first | exact (Kd.R_reads' HO_321001.out).2.2 | (with_reducible refine Kd.C_alloc ?_ _) | (with_reducible refine Kd.C_drewN ?_ _) | (with_reducible refine Kd.C_drew ?_)))
            (case side2 => exact (Kd.R_reads' HO_321001.out).2.1)
            rintro e w29 ⟨rfl, hb⟩
            refine ⟨_, rfl, ?_⟩
            have n0_ := Aside0.mk (Kd.R_below (Far.Ra HO_11.out) hb)
            have n1_ := Aside0.mk (Kd.R_below (Far.Ra HO_321001.out) hb)
            have n2_ := Aside0.mk (blk_below (g := gb310) (o := .cells #[.int .u64 0, .slice none 0 0, .int .u32 0, .slice none 0 0] 66 (0, 0)) (Far.Ba BK310.out) hb)
            have n3_ := Aside0.mk (blk_below (g := gb320) (o := .cells #[.int .u64 t314, .slice Ao16 t315.length co16, .int .u32 t318] 45 (0, 0)) (Far.Ba BK320.out) hb)
            have n4_ := Aside0.mk (below_step (by repeat (first | (with_reducible first | exact HB.out | apply below_alloc | apply pw_below_drewN | apply below_drew1 | refine below_set ?_ GE310.out | refine below_set ?_ GE320.out) | exact HB.out)) hb)
            clear HO_11 HO_321001 BK310 BK320 HB
            have HO_11 := n0_
            have HO_321001 := n1_
            have BK310 := n2_
            have BK320 := n3_
            have HB := n4_
            clear n0_ n1_ n2_ n3_ n4_
            (try clear hb)
            (try clear hb2)
            (try clear hk)
            (try clear hi)
            refine hK.out _ _ ⟨(blk_cell BK320.out 0).trans rfl, (blk_cell BK320.out 1).trans rfl, (blk_cell BK320.out 2).trans rfl, ((HB.out.cell (World.block_lt_of_cell? w _ hw325_0)).trans hw325_0)⟩ (fun hHeld => ?_)
            clear hK K
            refine norm_ (a' := ?_) ?_ ?_
            rotate_left
            · show Act.put _ (some 37) _ = _
              simp only [Act.put, List.setIfInBounds_toArray, List.set_cons_zero, List.set_cons_succ, i64_w, i32_w]
              rfl
            refine pure_ (i := 7) (N := some 38) (v := ?_) (a' := ?_) #[true, true, true, true, true, true, true, true] rfl rfl (any_of HT_.out (by kernel_rfl)) (fun _ _ _ h => h) (Or.inl ⟨by rfl, ?_⟩) ?_ ?_; rotate_left; (intro w'; go_simp; with_reducible rfl); rotate_left; (simp only [Act.put, List.setIfInBounds_toArray, List.set_cons_zero, List.set_cons_succ, i64_w, i32_w]; rfl)
            refine done_ (done_of HT_.out (by kernel_rfl)) ?_
            try go_wp2
            go_roundg k1
            case measure => have := HK1.out; omega
            case rel => exact ⟨(x11_1), (wrap64 (x12_1 + 1)), (by first | rfl | (simp; done) | (simp [*]; done)), H', ⟨by have := HK1.out; omega⟩, ⟨by (with_reducible repeat (first | apply Kd.R_alloc | apply Kd.R_drewN | apply Kd.R_drew)); exact HO_11.out⟩, ⟨by (with_reducible repeat (first | apply Kd.R_alloc | apply Kd.R_drewN | apply Kd.R_drew)); exact HO_321001.out⟩, ⟨by (with_reducible repeat (first | refine blk_drewN ?_ _ | refine blk_drew ?_ | refine blk_alloc ?_ _)); exact BK310.out⟩, ⟨by (with_reducible repeat (first | refine blk_drewN ?_ _ | refine blk_drew ?_ | refine blk_alloc ?_ _)); exact BK320.out⟩, ⟨by repeat (first | (with_reducible first | exact HB.out | apply below_alloc | apply pw_below_drewN | apply below_drew1 | refine below_set ?_ GE310.out | refine below_set ?_ GE320.out) | exact HB.out)⟩⟩
        · rw [if_neg c20] at H
          exact absurd H (by simp)
      · rw [if_neg c19] at H
        have c19b0 : decide (x12_1 < (l1.length : Int)) = false := decide_eq_false c19
        clear c19
        simp only [Option.some.injEq, Prod.mk.injEq] at H
        obtain ⟨rfl, rfl, rfl, rfl⟩ := H
        have hnb30 := NB320_310.out
        have hnc30 := NB310_320.out
        have hcz31_0 : wr.cell? ⟨gb320, 0, none⟩ = some (.int .u64 t314) := (blk_cell BK320.out 0).trans rfl
        have hcz31_1 : wr.cell? ⟨gb320, 1, none⟩ = some (.slice Ao16 t315.length co16) := (blk_cell BK320.out 1).trans rfl
        have hcz31_2 : wr.cell? ⟨gb320, 2, none⟩ = some (.int .u32 t318) := (blk_cell BK320.out 2).trans rfl
        have hfz31_0 := blk_frozen BK320.out 0
        have hfz31_1 := blk_frozen BK320.out 1
        have hfz31_2 := blk_frozen BK320.out 2
        obtain ⟨Ao32, co32, eo32⟩ := Kd.R_slice HO_11.out
        subst eo32
        have hcz33_0 : wr.cell? ⟨gb310, 0, none⟩ = some (.int .u64 0) := (blk_cell BK310.out 0).trans rfl
        have hcz33_1 : wr.cell? ⟨gb310, 1, none⟩ = some (.slice none 0 0) := (blk_cell BK310.out 1).trans rfl
        have hcz33_2 : wr.cell? ⟨gb310, 2, none⟩ = some (.int .u32 0) := (blk_cell BK310.out 2).trans rfl
        have hcz33_3 : wr.cell? ⟨gb310, 3, none⟩ = some (.slice none 0 0) := (blk_cell BK310.out 3).trans rfl
        have hfz33_0 := blk_frozen BK310.out 0
        have hfz33_1 := blk_frozen BK310.out 1
        have hfz33_2 := blk_frozen BK310.out 2
        have hfz33_3 := blk_frozen BK310.out 3
        go_wp2
        refine bodyPost_ret (results_cell_row rfl _ _ gb310 66 #[.int .u64 t314, .slice Ao16 t315.length co16, .int .u32 t318, .slice Ao32 x11_1.length co32] (0, 0) _ rfl (by (with_reducible repeat (first | refine blk_drewN ?_ _ | refine blk_drew ?_ | refine blk_alloc ?_ _)); refine blk_put (cs := #[.int .u64 t314, .slice Ao16 t315.length co16, .int .u32 t318, .slice none 0 0]) ?_ 3 _ rfl; (with_reducible repeat (first | refine blk_drewN ?_ _ | refine blk_drew ?_ | refine blk_alloc ?_ _)); refine blk_put (cs := #[.int .u64 t314, .slice Ao16 t315.length co16, .int .u32 0, .slice none 0 0]) ?_ 2 _ rfl; (with_reducible repeat (first | refine blk_drewN ?_ _ | refine blk_drew ?_ | refine blk_alloc ?_ _)); refine blk_put (cs := #[.int .u64 t314, .slice none 0 0, .int .u32 0, .slice none 0 0]) ?_ 1 _ rfl; (with_reducible repeat (first | refine blk_drewN ?_ _ | refine blk_drew ?_ | refine blk_alloc ?_ _)); refine blk_put (cs := #[.int .u64 0, .slice none 0 0, .int .u32 0, .slice none 0 0]) ?_ 0 _ rfl; (with_reducible repeat (first | refine blk_drewN ?_ _ | refine blk_drew ?_ | refine blk_alloc ?_ _)); exact BK310.out) Try.underlying66 rfl (by kernel_rfl)) rfl ?_
        exact ⟨_, _, by first | rfl | (simp [errW_none, errW_some] <;> rfl) | (simp [*, errW_none, errW_some] <;> rfl) | (refine congrArg (fun z_ : Int => Ending.returned (.bool (z_ == _))) ?_; simp only [IntKind.wrap, IntKind.bits, IntKind.signed]; simp <;> omega), by (with_reducible repeat (first | apply Kd.R_alloc | apply Kd.R_drewN | apply Kd.R_drew)); exact Kd.R_mono (Kd.R_far (p := ⟨gb310, 3, none⟩) (Kd.R_far (p := ⟨gb310, 2, none⟩) (Kd.R_far (p := ⟨gb310, 1, none⟩) (Kd.R_far (p := ⟨gb310, 0, none⟩) (Kd.R_types HO_321001.out BK310.out (by decide)) (fun _ hk => hk.2) (.int .u64 t314)) (fun _ hk => hk.2) (.slice Ao16 t315.length co16)) (fun _ hk => hk.2) (.int .u32 t318)) (fun _ hk => hk.2) (.slice Ao32 x11_1.length co32)) (fun _ hk => trivial), by (with_reducible repeat (first | apply Kd.R_alloc | apply Kd.R_drewN | apply Kd.R_drew)); exact Kd.R_mono (Kd.R_far (p := ⟨gb310, 3, none⟩) (Kd.R_far (p := ⟨gb310, 2, none⟩) (Kd.R_far (p := ⟨gb310, 1, none⟩) (Kd.R_far (p := ⟨gb310, 0, none⟩) (Kd.R_types HO_11.out BK310.out (by decide)) (fun _ hk => hk.2) (.int .u64 t314)) (fun _ hk => hk.2) (.slice Ao16 t315.length co16)) (fun _ hk => hk.2) (.int .u32 t318)) (fun _ hk => hk.2) (.slice Ao32 x11_1.length co32)) (fun _ hk => trivial), by repeat (first | (with_reducible first | exact HB.out | apply below_alloc | apply pw_below_drewN | apply below_drew1 | refine below_set ?_ GE310.out | refine below_set ?_ GE320.out) | exact HB.out)⟩
end Go.Proofs.Ytliohoalackhiaa.J
