/- Written by a program of this repo (wip/tools/gprint.py): what functions of the Go program compute, the proofs that they do, and the rows of statements. Conditions: those in each theorem. -/
import Derived.Test.YtliohoalackhiaaPTx0
import Derived.Test.YtliohoalackhiaaPTx3
import Derived.Test.YtliohoalackhiaaPTx5
import Derived.Test.YtliohoalackhiaaPTx8
import Derived.Test.YtliohoalackhiaaPW
namespace Go.Proofs.Ytliohoalackhiaa.T
open Go.RowKit Go.Proofs.YtliohoalackhiaaW.PrintWords Go.Proofs.YtliohoalackhiaaW.PrintLast Go.Proofs.YtliohoalackhiaaW.PrintMore
attribute [local go_sem] max2_int min2_int max_two min_two max_three min_three max_four min_four   -- for this text's walks alone
set_option linter.unusedVariables false
set_option linter.unusedSimpArgs false
def scullerlaw14_Token.l0 : Nat → List Int → List Int → Int → Int → List Int → Int → Option (Int × List Int × Int × List Int)
  | 0, _, _, _, _, _, _ => none
  | k + 1, x1, x11, x12, x214000, x214001, x214002 => if x12 < (x1.length : Int) then (if 0 ≤ x12 then ((scullerref12_Chunks.f k x214000 x214001 x214002).bind fun t219 => (if (wrap64 (rd x1 x12)) < t219 then ((scullerref03_Set.f k x11 (wrap64 (rd x1 x12))).bind fun t221 => (scullerlaw14_Token.l0 k x1 t221 (wrap64 (x12 + 1)) x214000 x214001 x214002)) else (scullerlaw14_Token.l0 k x1 x11 (wrap64 (x12 + 1)) x214000 x214001 x214002))) else (none)) else (some (x214000, x214001, x214002, x11))
def scullerlaw14_Token.f (k : Nat) (a0 : Int) (l1 : List Int) (a2 : Int) (a3 : Int) : Option (Int × List Int × Int × List Int) := (scullerlaw12_Arena.f k l1 a2 a3).bind fun t204 => ((scullerref12_Of.f k a0 t204).bind fun bt207 => ((scullerref12_Chunks.f k bt207.1 bt207.2.1 bt207.2.2.1).bind fun t214 => ((scullerref03_Make.f k t214).bind fun t215 => (scullerlaw14_Token.l0 k l1 t215 0 bt207.1 bt207.2.1 bt207.2.2.1))))
def scullerlaw14_Token.T6 : Bool × List (List Nat × List Nat) := (true, [([], []), ([], []), ([0, 1], [0, 1]), ([2], [2]), ([3], [3]), ([], []), ([5], [5]), ([4, 6], [4, 6])])
def scullerlaw14_Token.B6 : List Nat := [0, 0, 3, 7, 15, 0, 32, 127]
theorem scullerlaw14_Token.tab6 : rtab .any (opsOf Try.f40 6) = scullerlaw14_Token.T6 := by kernel_rfl
theorem scullerlaw14_Token.bits6 : waitsOk scullerlaw14_Token.T6.2 scullerlaw14_Token.B6 = true := by kernel_rfl
set_option maxHeartbeats 8000000 in
set_option maxRecDepth 100000 in
theorem scullerlaw14_Token.calls (k : Nat) (a0 : Int) (A1 : Option Addr) (c1 : Nat) (l1 : List Int) (a2 : Int) (a3 : Int) (r1 : Int) (r2 : List Int) (r3 : Int) (r4 : List Int) (w : World) (hr1 : Kd.C (Kd.int .u8) w A1 l1.length l1) (hc1 : l1.length ≤ c1) (h : scullerlaw14_Token.f k a0 l1 a2 a3 = some (r1, r2, r3, r4)) :
    Calls Try.prog 40 #[.int .u64 a0, .slice A1 l1.length c1, .int .u8 a2, .int .u8 a3] w fun e w' => ∃ v1_ v3_ : Value, e = .returned (.agg #[.int .u64 r1, v1_, .int .u32 r3, v3_]) ∧ Kd.R (Kd.int .i64) 3 w' w.heap.size (fun _ => True) v1_ r2 ∧ Kd.R (Kd.int .u8) 5 w' w.heap.size (fun _ => True) v3_ r4 ∧ Below w.heap.size w w' := by
  have hu66 := Try.underlying66
  have hu45 := Try.underlying45
  have HR1 := Aside0.mk hr1
  have HC1 := Aside0.mk hc1
  clear hr1 hc1
  have HB := Aside0.mk (Below.refl w.heap.size w)
  have H : ((scullerlaw12_Arena.f k l1 a2 a3).bind fun t204 => ((scullerref12_Of.f k a0 t204).bind fun bt207 => ((scullerref12_Chunks.f k bt207.1 bt207.2.1 bt207.2.2.1).bind fun t214 => ((scullerref03_Make.f k t214).bind fun t215 => (scullerlaw14_Token.l0 k l1 t215 0 bt207.1 bt207.2.1 bt207.2.2.1))))) = some (r1, r2, r3, r4) := h
  clear h
  replace H := Option.bind_eq_some_iff.mp H
  obtain ⟨t204, A50, H⟩ := H
  replace H : ((scullerref12_Of.f k a0 t204).bind fun bt207 => ((scullerref12_Chunks.f k bt207.1 bt207.2.1 bt207.2.2.1).bind fun t214 => ((scullerref03_Make.f k t214).bind fun t215 => (scullerlaw14_Token.l0 k l1 t215 0 bt207.1 bt207.2.1 bt207.2.2.1)))) = some (r1, r2, r3, r4) := H
  have A5 := Aside0.mk A50
  clear A50
  replace H := Option.bind_eq_some_iff.mp H
  obtain ⟨⟨t207, t208, t211, t212⟩, A60, H⟩ := H
  replace H : ((scullerref12_Chunks.f k t207 t208 t211).bind fun t214 => ((scullerref03_Make.f k t214).bind fun t215 => (scullerlaw14_Token.l0 k l1 t215 0 t207 t208 t211))) = some (r1, r2, r3, r4) := H
  have A6 := Aside0.mk A60
  clear A60
  replace H := Option.bind_eq_some_iff.mp H
  obtain ⟨t214, A70, H⟩ := H
  replace H : ((scullerref03_Make.f k t214).bind fun t215 => (scullerlaw14_Token.l0 k l1 t215 0 t207 t208 t211)) = some (r1, r2, r3, r4) := H
  have A7 := Aside0.mk A70
  clear A70
  replace H := Option.bind_eq_some_iff.mp H
  obtain ⟨t215, A80, H⟩ := H
  replace H : (scullerlaw14_Token.l0 k l1 t215 0 t207 t208 t211) = some (r1, r2, r3, r4) := H
  have A8 := Aside0.mk A80
  clear A80
  have H' := Aside0.mk H
  clear H
  go_enter Try.func40, Try.ntmps40
  go_wp2_with (first | ((with_reducible refine gate_dst (N := 8) rfl ?_); refine box_event ?hg (N := 8) ?hd (cs := #[.int .u64 0, .slice none 0 0, .int .u32 0, .slice none 0 0]) (t := 66) ?hr ?_; (case hd => rfl); (case hg => rfl); (case hr => first | (go_simp; done) | (go_simp; rfl)); intro gb203 hg w9 hbox hb; have n0_ := Aside0.mk (below_step (Far.Bb HB.out) hb); have n1_ := Aside0.mk (hbox); have n2_ := Aside0.mk ((by rw [hg]; exact (below_size (Far.Bb HB.out)) : w.heap.size ≤ gb203)); have n3_ := Aside0.mk ((by rw [hg]; exact (below_size (Far.Bb HB.out)) : w.heap.size ≤ gb203)); clear HB; have HB := n0_; have BK203 := n1_; have GW203 := n2_; have GE203 := n3_; clear n0_ n1_ n2_ n3_; clear hb hbox hg) | ((with_reducible refine gate_callee (f := 26) rfl ?_); refine goesL_ (some 18) rfl rfl Try.func26 (by kernel_rfl) rfl #[.slice A1 l1.length c1, .int .u8 a2, .int .u8 a3] rfl (by (try simp only [List.map_toArray, List.map_cons, List.map_nil]); first | done | rfl | (simp only [List.length_drop, List.length_take]; rfl)) ?_; (with_reducible refine (scullerlaw12_Arena.calls k _ _ l1 a2 a3 t204 _ ?side1 ?side2 A5.out).mono ?_); (case side1 => repeat (first | exact (Kd.C_below HR1.out HB.out) | (with_reducible refine Kd.C_alloc ?_ _) | (with_reducible refine Kd.C_drewN ?_ _) | (with_reducible refine Kd.C_drew ?_))); (case side2 => exact HC1.out); rintro e w10 ⟨v205, rfl, ho0, hb⟩; refine ⟨_, rfl, ?_⟩; have n0_ := Aside0.mk (Kd.S_lower ho0 (below_size (by repeat (first | (with_reducible first | exact HB.out | apply below_alloc | apply pw_below_drewN | apply below_drew1 | refine below_set ?_ GE203.out) | exact HB.out)))); have n1_ := Aside0.mk (blk_below (g := gb203) (o := .cells #[.int .u64 0, .slice none 0 0, .int .u32 0, .slice none 0 0] 66 (0, 0)) (Far.Ba BK203.out) hb); have n2_ := Aside0.mk (below_step (by repeat (first | (with_reducible first | exact HB.out | apply below_alloc | apply pw_below_drewN | apply below_drew1 | refine below_set ?_ GE203.out) | exact HB.out)) hb); clear BK203 HB; have HO206 := n0_; have BK203 := n1_; have HB := n2_; clear n0_ n1_ n2_; (try clear hb); (try clear hb2); (try clear hk); (try clear hi); (try clear ho0); obtain ⟨Ao11, co11, eo11⟩ := Kd.S_slice HO206.out; subst eo11) | ((with_reducible refine gate_callee (f := 52) rfl ?_); refine goesL_ (some 19) rfl rfl Try.func52 (by kernel_rfl) rfl #[.int .u64 a0, .slice Ao11 t204.length co11] rfl (by (try simp only [List.map_toArray, List.map_cons, List.map_nil]); first | done | rfl | (simp only [List.length_drop, List.length_take]; rfl)) ?_; (with_reducible refine (scullerref12_Of.calls k a0 _ _ t204 t207 t208 t211 t212 _ ?side1 ?side2 A6.out).mono ?_); (case side1 => repeat (first | exact (Kd.S_reads' HO206.out).2.2 | (with_reducible refine Kd.C_alloc ?_ _) | (with_reducible refine Kd.C_drewN ?_ _) | (with_reducible refine Kd.C_drew ?_))); (case side2 => exact (Kd.S_reads' HO206.out).2.1); rintro e w12 ⟨v209, rfl, ho0, hb⟩; refine ⟨_, rfl, ?_⟩; have n0_ := Aside0.mk (Kd.S_below (by (with_reducible repeat (first | apply Kd.S_alloc | apply Kd.S_drewN | apply Kd.S_drew)); exact HO206.out) hb); have n1_ := Aside0.mk (Kd.R_lower ho0 (below_size (by repeat (first | (with_reducible first | exact HB.out | apply below_alloc | apply pw_below_drewN | apply below_drew1 | refine below_set ?_ GE203.out) | exact HB.out)))); have n2_ := Aside0.mk (blk_below (g := gb203) (o := .cells #[.int .u64 0, .slice none 0 0, .int .u32 0, .slice none 0 0] 66 (0, 0)) (Far.Ba BK203.out) hb); have n3_ := Aside0.mk (below_step (by repeat (first | (with_reducible first | exact HB.out | apply below_alloc | apply pw_below_drewN | apply below_drew1 | refine below_set ?_ GE203.out) | exact HB.out)) hb); clear HO206 BK203 HB; have HO206 := n0_; have HO210 := n1_; have BK203 := n2_; have HB := n3_; clear n0_ n1_ n2_ n3_; (try clear hb); (try clear hb2); (try clear hk); (try clear hi); (try clear ho0)) | ((with_reducible refine gate_dst (N := 9) rfl ?_); refine box_event ?hg (N := 9) ?hd (cs := #[.int .u64 0, .slice none 0 0, .int .u32 0]) (t := 45) ?hr ?_; (case hd => rfl); (case hg => rfl); (case hr => first | (go_simp; done) | (go_simp; rfl)); intro gb213 hg w13 hbox hb; have n0_ := Aside0.mk (Kd.S_below (by (with_reducible repeat (first | apply Kd.S_alloc | apply Kd.S_drewN | apply Kd.S_drew)); exact HO206.out) hb); have n1_ := Aside0.mk (Kd.R_below (Far.Ra HO210.out) hb); have n2_ := Aside0.mk (blk_below (g := gb203) (o := .cells #[.int .u64 0, .slice none 0 0, .int .u32 0, .slice none 0 0] 66 (0, 0)) (Far.Ba BK203.out) hb); have n3_ := Aside0.mk (below_step (by repeat (first | (with_reducible first | exact HB.out | apply below_alloc | apply pw_below_drewN | apply below_drew1 | refine below_set ?_ GE203.out) | exact HB.out)) hb); have n4_ := Aside0.mk (hbox); have n5_ := Aside0.mk ((by rw [hg]; exact (below_size (by repeat (first | (with_reducible first | exact HB.out | apply below_alloc | apply pw_below_drewN | apply below_drew1 | refine below_set ?_ GE203.out) | exact HB.out))) : w.heap.size ≤ gb213)); have n6_ := Aside0.mk ((by rw [hg]; exact (below_size (by repeat (first | (with_reducible first | exact HB.out | apply below_alloc | apply pw_below_drewN | apply below_drew1 | refine below_set ?_ GE203.out) | exact HB.out))) : w.heap.size ≤ gb213)); have n7_ := Aside0.mk ((by rw [hg]; exact Nat.ne_of_lt (blk_lt (g := gb203) (o := .cells #[.int .u64 0, .slice none 0 0, .int .u32 0, .slice none 0 0] 66 (0, 0)) (Far.Ba BK203.out)) : gb203 ≠ gb213)); have n8_ := Aside0.mk ((by rw [hg]; exact Nat.ne_of_gt (blk_lt (g := gb203) (o := .cells #[.int .u64 0, .slice none 0 0, .int .u32 0, .slice none 0 0] 66 (0, 0)) (Far.Ba BK203.out)) : gb213 ≠ gb203)); clear HO206 HO210 BK203 HB; have HO206 := n0_; have HO210 := n1_; have BK203 := n2_; have HB := n3_; have BK213 := n4_; have GW213 := n5_; have GE213 := n6_; have NB203_213 := n7_; have NB213_203 := n8_; clear n0_ n1_ n2_ n3_ n4_ n5_ n6_ n7_ n8_; clear hb hbox hg; have hnb14 := NB213_203.out; have hnc14 := NB203_213.out; have hcz15_0 : w13.cell? ⟨gb213, 0, none⟩ = some (.int .u64 0) := (blk_cell BK213.out 0).trans rfl; have hcz15_1 : w13.cell? ⟨gb213, 1, none⟩ = some (.slice none 0 0) := (blk_cell BK213.out 1).trans rfl; have hcz15_2 : w13.cell? ⟨gb213, 2, none⟩ = some (.int .u32 0) := (blk_cell BK213.out 2).trans rfl; have hfz15_0 := blk_frozen BK213.out 0; have hfz15_1 := blk_frozen BK213.out 1; have hfz15_2 := blk_frozen BK213.out 2; obtain ⟨Ao16, co16, eo16⟩ := Kd.R_slice HO210.out; subst eo16) | ((with_reducible refine gate_callee (f := 97) rfl ?_); refine goesL_ (some 23) rfl rfl Try.func97 (by kernel_rfl) rfl #[.agg #[.int .u64 t207, .slice Ao16 t208.length co16, .int .u32 t211]] rfl (by (try simp only [List.map_toArray, List.map_cons, List.map_nil]); first | done | rfl | (simp only [List.length_drop, List.length_take]; rfl)) ?_; (with_reducible refine (scullerref12_Chunks.calls k t207 _ _ t208 t211 t214 _ ?side1 ?side2 A7.out).mono ?_); (case side1 => refine (Kd.R_reads' (e := 3) (base := w.heap.size) (ok := fun k_ => True) (n := t208.length) (c := co16) ?_).2.2; exact (Far.Ra (Kd.R_mono (Kd.R_far (p := ⟨gb213, 2, none⟩) (Kd.R_far (p := ⟨gb213, 1, none⟩) (Kd.R_far (p := ⟨gb213, 0, none⟩) (Kd.R_types HO210.out BK213.out (by decide)) (fun _ hk => hk.2) (.int .u64 t207)) (fun _ hk => hk.2) (.slice Ao16 t208.length co16)) (fun _ hk => hk.2) (.int .u32 t211)) (fun _ h_ => h_.1)))); (case side2 => exact (Kd.R_reads' HO210.out).2.1); rintro e w17 ⟨rfl, hb⟩; refine ⟨_, rfl, ?_⟩; have n0_ := Aside0.mk (Kd.S_below (by (with_reducible repeat (first | apply Kd.S_alloc | apply Kd.S_drewN | apply Kd.S_drew)); exact (Kd.S_mono (Kd.S_far (p := ⟨gb213, 2, none⟩) (Kd.S_far (p := ⟨gb213, 1, none⟩) (Kd.S_far (p := ⟨gb213, 0, none⟩) (Kd.S_types HO206.out BK213.out (by decide)) (fun _ hk => hk.2) (.int .u64 t207)) (fun _ hk => hk.2) (.slice Ao16 t208.length co16)) (fun _ hk => hk.2) (.int .u32 t211)) (fun _ h_ => h_.1))) hb); have n1_ := Aside0.mk (Kd.R_below (Far.Ra (Kd.R_mono (Kd.R_far (p := ⟨gb213, 2, none⟩) (Kd.R_far (p := ⟨gb213, 1, none⟩) (Kd.R_far (p := ⟨gb213, 0, none⟩) (Kd.R_types HO210.out BK213.out (by decide)) (fun _ hk => hk.2) (.int .u64 t207)) (fun _ hk => hk.2) (.slice Ao16 t208.length co16)) (fun _ hk => hk.2) (.int .u32 t211)) (fun _ h_ => h_.1))) hb); have n2_ := Aside0.mk (blk_below (g := gb203) (o := .cells #[.int .u64 0, .slice none 0 0, .int .u32 0, .slice none 0 0] 66 (0, 0)) (by (with_reducible repeat (first | refine blk_drewN ?_ _ | refine blk_drew ?_ | refine blk_alloc ?_ _)); refine blk_far ?_ NB203_213.out _; (with_reducible repeat (first | refine blk_drewN ?_ _ | refine blk_drew ?_ | refine blk_alloc ?_ _)); refine blk_far ?_ NB203_213.out _; (with_reducible repeat (first | refine blk_drewN ?_ _ | refine blk_drew ?_ | refine blk_alloc ?_ _)); refine blk_far ?_ NB203_213.out _; (with_reducible repeat (first | refine blk_drewN ?_ _ | refine blk_drew ?_ | refine blk_alloc ?_ _)); exact BK203.out) hb); have n3_ := Aside0.mk (blk_below (g := gb213) (o := .cells #[.int .u64 t207, .slice Ao16 t208.length co16, .int .u32 t211] 45 (0, 0)) (by (with_reducible repeat (first | refine blk_drewN ?_ _ | refine blk_drew ?_ | refine blk_alloc ?_ _)); refine blk_put (cs := #[.int .u64 t207, .slice Ao16 t208.length co16, .int .u32 0]) ?_ 2 _ rfl; (with_reducible repeat (first | refine blk_drewN ?_ _ | refine blk_drew ?_ | refine blk_alloc ?_ _)); refine blk_put (cs := #[.int .u64 t207, .slice none 0 0, .int .u32 0]) ?_ 1 _ rfl; (with_reducible repeat (first | refine blk_drewN ?_ _ | refine blk_drew ?_ | refine blk_alloc ?_ _)); refine blk_put (cs := #[.int .u64 0, .slice none 0 0, .int .u32 0]) ?_ 0 _ rfl; (with_reducible repeat (first | refine blk_drewN ?_ _ | refine blk_drew ?_ | refine blk_alloc ?_ _)); exact BK213.out) hb); have n4_ := Aside0.mk (below_step (by repeat (first | (with_reducible first | exact HB.out | apply below_alloc | apply pw_below_drewN | apply below_drew1 | refine below_set ?_ GE203.out | refine below_set ?_ GE213.out) | exact HB.out)) hb); clear HO206 HO210 BK203 BK213 HB; have HO206 := n0_; have HO210 := n1_; have BK203 := n2_; have BK213 := n3_; have HB := n4_; clear n0_ n1_ n2_ n3_ n4_; (try clear hb); (try clear hb2); (try clear hk); (try clear hi)) | ((with_reducible refine gate_callee (f := 96) rfl ?_); refine goesL_ (some 24) rfl rfl Try.func96 (by kernel_rfl) rfl #[.int .i64 t214] rfl (by (try simp only [List.map_toArray, List.map_cons, List.map_nil]); first | done | rfl | (simp only [List.length_drop, List.length_take]; rfl)) ?_; (with_reducible refine (scullerref03_Make.calls k t214 t215 _ A8.out).mono ?_); rintro e w18 ⟨v216, rfl, ho0, hb⟩; refine ⟨_, rfl, ?_⟩; have n0_ := Aside0.mk (Kd.S_below (by (with_reducible repeat (first | apply Kd.S_alloc | apply Kd.S_drewN | apply Kd.S_drew)); exact HO206.out) hb); have n1_ := Aside0.mk (Kd.R_below (Far.Ra HO210.out) hb); have n2_ := Aside0.mk (Kd.R_lower ho0 (below_size (by repeat (first | (with_reducible first | exact HB.out | apply below_alloc | apply pw_below_drewN | apply below_drew1 | refine below_set ?_ GE203.out | refine below_set ?_ GE213.out) | exact HB.out)))); have n3_ := Aside0.mk (blk_below (g := gb203) (o := .cells #[.int .u64 0, .slice none 0 0, .int .u32 0, .slice none 0 0] 66 (0, 0)) (Far.Ba BK203.out) hb); have n4_ := Aside0.mk (blk_below (g := gb213) (o := .cells #[.int .u64 t207, .slice Ao16 t208.length co16, .int .u32 t211] 45 (0, 0)) (Far.Ba BK213.out) hb); have n5_ := Aside0.mk (below_step (by repeat (first | (with_reducible first | exact HB.out | apply below_alloc | apply pw_below_drewN | apply below_drew1 | refine below_set ?_ GE203.out | refine below_set ?_ GE213.out) | exact HB.out)) hb); clear HO206 HO210 BK203 BK213 HB; have HO206 := n0_; have HO210 := n1_; have HO217 := n2_; have BK203 := n3_; have BK213 := n4_; have HB := n5_; clear n0_ n1_ n2_ n3_ n4_ n5_; (try clear hb); (try clear hb2); (try clear hk); (try clear hi); (try clear ho0)))
  go_loopg [11, 12] k (fun kq v11 v12 w' => ∃ (x11_1 : List Int) (x12_1 : Int), v12 = .int .i64 x12_1 ∧ Aside0 (scullerlaw14_Token.l0 kq l1 x11_1 x12_1 t207 t208 t211 = some (r1, r2, r3, r4)) ∧ Aside0 (kq ≤ k) ∧ Aside0 (Kd.R (Kd.int .u8) 5 w' w.heap.size (fun _ => True) v11 x11_1) ∧ Aside0 (Kd.R (Kd.int .i64) 3 w' w.heap.size (fun _ => True) (.slice Ao16 t208.length co16) t208) ∧ Aside0 (w'.heap[gb203]? = some (.cells #[.int .u64 0, (.slice none 0 0), .int .u32 0, (.slice none 0 0)] 66 (0, 0))) ∧ Aside0 (w'.heap[gb213]? = some (.cells #[.int .u64 t207, (.slice Ao16 t208.length co16), .int .u32 t211] 45 (0, 0))) ∧ Aside0 (Below w.heap.size w w'))
  case atStart => exact ⟨(t215), (0), (by first | rfl | (simp; done) | (simp [*]; done)), H', ⟨Nat.le_refl _⟩, ⟨by (with_reducible repeat (first | apply Kd.R_alloc | apply Kd.R_drewN | apply Kd.R_drew)); exact HO217.out⟩, ⟨by (with_reducible repeat (first | apply Kd.R_alloc | apply Kd.R_drewN | apply Kd.R_drew)); exact HO210.out⟩, ⟨by (with_reducible repeat (first | refine blk_drewN ?_ _ | refine blk_drew ?_ | refine blk_alloc ?_ _)); exact BK203.out⟩, ⟨by (with_reducible repeat (first | refine blk_drewN ?_ _ | refine blk_drew ?_ | refine blk_alloc ?_ _)); exact BK213.out⟩, ⟨by repeat (first | (with_reducible first | exact HB.out | apply below_alloc | apply pw_below_drewN | apply below_drew1 | refine below_set ?_ GE203.out | refine below_set ?_ GE213.out) | exact HB.out)⟩⟩
  case round =>
    clear H'; (try clear c1); (try clear c2); (try clear p2); (try clear c4); (try clear c5); (try clear c9); (try clear c14); (try clear hcz15_0); (try clear hcz15_1); (try clear hcz15_2); (try clear hfz15_0); (try clear hfz15_1); (try clear hfz15_2)
    obtain ⟨x11_1, x12_1, rfl, HA, HK1, HO_11, HO_214001, BK203, BK213, HB⟩ := hrel
    cases gk with
    | zero => exact absurd HA.out (by simp [scullerlaw14_Token.l0])
    | succ k1 =>
      have H := HA.out
      clear HA
      simp only [scullerlaw14_Token.l0] at H
      by_cases c19 : x12_1 < (l1.length : Int)
      · rw [if_pos c19] at H
        have c19b0 : decide (x12_1 < (l1.length : Int)) = true := decide_eq_true c19
        clear c19
        by_cases c20 : 0 ≤ x12_1
        · rw [if_pos c20] at H
          have c20b0 : decide (0 ≤ x12_1) = true := decide_eq_true c20
          clear c20
          replace H := Option.bind_eq_some_iff.mp H
          obtain ⟨t219, A210, H⟩ := H
          replace H : (if (wrap64 (rd l1 x12_1)) < t219 then ((scullerref03_Set.f k1 x11_1 (wrap64 (rd l1 x12_1))).bind fun t221 => (scullerlaw14_Token.l0 k1 l1 t221 (wrap64 (x12_1 + 1)) t207 t208 t211)) else (scullerlaw14_Token.l0 k1 l1 x11_1 (wrap64 (x12_1 + 1)) t207 t208 t211)) = some (r1, r2, r3, r4) := H
          have A21 := Aside0.mk A210
          clear A210
          by_cases c22 : (wrap64 (rd l1 x12_1)) < t219
          · rw [if_pos c22] at H
            have c22b0 : decide ((wrap64 (rd l1 x12_1)) < t219) = true := decide_eq_true c22
            clear c22
            replace H := Option.bind_eq_some_iff.mp H
            obtain ⟨t221, A230, H⟩ := H
            replace H : (scullerlaw14_Token.l0 k1 l1 t221 (wrap64 (x12_1 + 1)) t207 t208 t211) = some (r1, r2, r3, r4) := H
            have A23 := Aside0.mk A230
            clear A230
            have H' := Aside0.mk H
            clear H
            try go_wp2
            have n0_ := Aside0.mk (Kd.R_drew HO_11.out)
            have n1_ := Aside0.mk (Kd.R_drew HO_214001.out)
            have n2_ := Aside0.mk (blk_drew BK203.out)
            have n3_ := Aside0.mk (blk_drew BK213.out)
            have n4_ := Aside0.mk (below_drew1 HB.out)
            clear HO_11 HO_214001 BK203 BK213 HB
            have HO_11 := n0_
            have HO_214001 := n1_
            have BK203 := n2_
            have BK213 := n3_
            have HB := n4_
            clear n0_ n1_ n2_ n3_ n4_
            have p218 : 0 ≤ (x12_1 : Int) := of_decide_eq_true (by first | (with_reducible assumption) | assumption)
            have q218 : x12_1 < (l1.length : Int) := of_decide_eq_true (by first | (with_reducible assumption) | assumption)
            obtain ⟨ad218, e218, hx218_0⟩ := Kd.at_int HR1.out x12_1 p218 q218
            have hw218_0 := hx218_0
            cases e218
            replace hx218_0 := (HB.out.cell (World.block_lt_of_cell? w _ hx218_0)).trans hx218_0
            replace p218 := eq_true p218
            replace q218 := eq_true q218
            refine start_ (n := 8) (S := fun w' => w'.cell? ⟨gb213, 0, none⟩ = some (.int .u64 t207) ∧ w'.cell? ⟨gb213, 1, none⟩ = some (.slice Ao16 t208.length co16) ∧ w'.cell? ⟨gb213, 2, none⟩ = some (.int .u32 t211) ∧ w'.cell? (ad218.add (x12_1).toNat) = some (.int .u8 (rd l1 x12_1))) (ds := []) #[false, false, false, false, false, false, false, false] (by kernel_rfl) rfl rfl ⟨(blk_cell BK213.out 0).trans rfl, (blk_cell BK213.out 1).trans rfl, (blk_cell BK213.out 2).trans rfl, ((HB.out.cell (World.block_lt_of_cell? w _ hw218_0)).trans hw218_0)⟩ (fun hHeld => ?_); refine with_tabW scullerlaw14_Token.tab6 scullerlaw14_Token.bits6 (fun HT_ HW_ => ?_)
            generalize wr.drew = w24 at HO_11 HO_214001 BK203 BK213 HB hx218_0 hHeld ⊢
            refine pure_ (i := 0) (N := some 31) (v := ?_) (a' := ?_) #[true, false, false, false, false, false, false, false] rfl rfl (any_of HT_.out (by kernel_rfl)) (fun _ _ _ h => h) (Or.inl ⟨by rfl, ?_⟩) ?_ ?_; rotate_left; (intro w'; go_simp; with_reducible rfl); rotate_left; (simp only [Act.put, List.setIfInBounds_toArray, List.set_cons_zero, List.set_cons_succ, i64_w, i32_w]; rfl)
            refine pure_ (i := 1) (N := some 32) (v := ?_) (a' := ?_) #[true, true, false, false, false, false, false, false] rfl rfl (any_of HT_.out (by kernel_rfl)) (fun _ _ _ h => h) (Or.inl ⟨by rfl, ?_⟩) ?_ ?_; rotate_left; (intro w'; go_simp; with_reducible rfl); rotate_left; (simp only [Act.put, List.setIfInBounds_toArray, List.set_cons_zero, List.set_cons_succ, i64_w, i32_w]; rfl)
            refine pure_ (i := 2) (N := some 33) (v := ?_) (a' := ?_) #[true, true, true, false, false, false, false, false] rfl rfl (any_of HT_.out (by kernel_rfl)) (fun _ _ _ h => h) (Or.inl ⟨by rfl, ?_⟩) ?_ ?_; rotate_left; (intro w'; go_simp; with_reducible rfl); rotate_left; (simp only [Act.put, List.setIfInBounds_toArray, List.set_cons_zero, List.set_cons_succ, i64_w, i32_w]; rfl)
            refine take_ (i := 3) (N := some 34) (v := ?_) (a' := ?_) #[true, true, true, true, false, false, false, false] rfl rfl (take_ofW HT_.out HW_.out (by kernel_rfl)) (fun _ _ _ h => h) (Or.inl ⟨by rfl, ?_⟩) hHeld ?_ ?_; rotate_left; (rintro w' ⟨s0, s1, s2, s3⟩; go_simp; with_reducible rfl); rotate_left; (simp only [Act.put, List.setIfInBounds_toArray, List.set_cons_zero, List.set_cons_succ, i64_w, i32_w]; rfl)
            refine pure_ (i := 4) (N := some 35) (v := ?_) (a' := ?_) #[true, true, true, true, true, false, false, false] rfl rfl (any_of HT_.out (by kernel_rfl)) (fun _ _ _ h => h) (Or.inl ⟨by rfl, ?_⟩) ?_ ?_; rotate_left; (intro w'; go_simp; with_reducible rfl); rotate_left; (simp only [Act.put, List.setIfInBounds_toArray, List.set_cons_zero, List.set_cons_succ, i64_w, i32_w]; rfl)
            refine take_ (i := 5) (N := some 36) (v := ?_) (a' := ?_) #[true, true, true, true, true, true, false, false] rfl rfl (take_ofW HT_.out HW_.out (by kernel_rfl)) (fun _ _ _ h => h) (Or.inl ⟨by rfl, ?_⟩) hHeld ?_ ?_; rotate_left; (rintro w' ⟨s0, s1, s2, s3⟩; go_simp; with_reducible rfl); rotate_left; (simp only [Act.put, List.setIfInBounds_toArray, List.set_cons_zero, List.set_cons_succ, i64_w, i32_w]; rfl)
            refine one_ (i := 6) (N := some 37) #[true, true, true, true, true, true, true, false] rfl rfl (one_of HT_.out (by kernel_rfl)) (by decide) (fun K hK => ?_)
            refine goes_ Try.func97 (by kernel_rfl) rfl #[.agg #[.int .u64 t207, .slice Ao16 t208.length co16, .int .u32 t211]] (by rfl) rfl rfl (by (try simp only [List.map_toArray, List.map_cons, List.map_nil]); first | done | rfl | (simp only [List.length_drop, List.length_take]; rfl)) ?_
            with_reducible refine (scullerref12_Chunks.calls k1 t207 _ _ t208 t211 t219 _ ?side1 ?side2 A21.out).mono ?_
            (case side1 => repeat (first | exact (Kd.R_reads' HO_214001.out).2.2 | (with_reducible refine Kd.C_alloc ?_ _) | (with_reducible refine Kd.C_drewN ?_ _) | (with_reducible refine Kd.C_drew ?_)))
            (case side2 => exact (Kd.R_reads' HO_214001.out).2.1)
            rintro e w25 ⟨rfl, hb⟩
            refine ⟨_, rfl, ?_⟩
            have n0_ := Aside0.mk (Kd.R_below (Far.Ra HO_11.out) hb)
            have n1_ := Aside0.mk (Kd.R_below (Far.Ra HO_214001.out) hb)
            have n2_ := Aside0.mk (blk_below (g := gb203) (o := .cells #[.int .u64 0, .slice none 0 0, .int .u32 0, .slice none 0 0] 66 (0, 0)) (Far.Ba BK203.out) hb)
            have n3_ := Aside0.mk (blk_below (g := gb213) (o := .cells #[.int .u64 t207, .slice Ao16 t208.length co16, .int .u32 t211] 45 (0, 0)) (Far.Ba BK213.out) hb)
            have n4_ := Aside0.mk (below_step (by repeat (first | (with_reducible first | exact HB.out | apply below_alloc | apply pw_below_drewN | apply below_drew1 | refine below_set ?_ GE203.out | refine below_set ?_ GE213.out) | exact HB.out)) hb)
            clear HO_11 HO_214001 BK203 BK213 HB
            have HO_11 := n0_
            have HO_214001 := n1_
            have BK203 := n2_
            have BK213 := n3_
            have HB := n4_
            clear n0_ n1_ n2_ n3_ n4_
            (try clear hb)
            (try clear hb2)
            (try clear hk)
            (try clear hi)
            refine hK.out _ _ ⟨(blk_cell BK213.out 0).trans rfl, (blk_cell BK213.out 1).trans rfl, (blk_cell BK213.out 2).trans rfl, ((HB.out.cell (World.block_lt_of_cell? w _ hw218_0)).trans hw218_0)⟩ (fun hHeld => ?_)
            clear hK K
            refine norm_ (a' := ?_) ?_ ?_
            rotate_left
            · show Act.put _ (some 37) _ = _
              simp only [Act.put, List.setIfInBounds_toArray, List.set_cons_zero, List.set_cons_succ, i64_w, i32_w]
              rfl
            refine pure_ (i := 7) (N := some 38) (v := ?_) (a' := ?_) #[true, true, true, true, true, true, true, true] rfl rfl (any_of HT_.out (by kernel_rfl)) (fun _ _ _ h => h) (Or.inl ⟨by rfl, ?_⟩) ?_ ?_; rotate_left; (intro w'; go_simp; with_reducible rfl); rotate_left; (simp only [Act.put, List.setIfInBounds_toArray, List.set_cons_zero, List.set_cons_succ, i64_w, i32_w]; rfl)
            refine done_ (done_of HT_.out (by kernel_rfl)) ?_
            have p220 : 0 ≤ (x12_1 : Int) := of_decide_eq_true (by first | (with_reducible assumption) | assumption)
            have q220 : x12_1 < (l1.length : Int) := of_decide_eq_true (by first | (with_reducible assumption) | assumption)
            obtain ⟨ad220, e220, hx220_0⟩ := Kd.at_int HR1.out x12_1 p220 q220
            obtain rfl : ad218 = ad220 := (by injection e220)
            replace hx220_0 := (HB.out.cell (World.block_lt_of_cell? w _ hx220_0)).trans hx220_0
            replace p220 := eq_true p220
            replace q220 := eq_true q220
            obtain ⟨Ao26, co26, eo26⟩ := Kd.R_slice HO_11.out
            subst eo26
            try go_wp2_with (first | ((with_reducible refine gate_callee (f := 98) rfl ?_); refine goesL_ (some 45) rfl rfl Try.func98 (by kernel_rfl) rfl #[.slice Ao26 x11_1.length co26, .int .i64 (wrap64 (rd l1 x12_1))] rfl (by (try simp only [List.map_toArray, List.map_cons, List.map_nil]); first | done | rfl | (simp only [List.length_drop, List.length_take]; rfl)) ?_; (with_reducible refine (scullerref03_Set.calls k1 _ _ x11_1 (wrap64 (rd l1 x12_1)) t221 _ ?side1 ?side2 A23.out).mono ?_); (case side1 => repeat (first | exact (Kd.R_reads' HO_11.out).2.2 | (with_reducible refine Kd.C_alloc ?_ _) | (with_reducible refine Kd.C_drewN ?_ _) | (with_reducible refine Kd.C_drew ?_))); (case side2 => exact (Kd.R_reads' HO_11.out).2.1); rintro e w27 ⟨v222, rfl, ho0, hb⟩; refine ⟨_, rfl, ?_⟩; have n0_ := Aside0.mk (Kd.R_elder' (Far.Ra HO_11.out) (Kd.R_base ho0) hb); have n1_ := Aside0.mk (Kd.R_below (Far.Ra HO_214001.out) hb); have n2_ := Aside0.mk (Kd.R_lower (Kd.R_new' ho0 (Kd.R_lt (Far.Ra HO_11.out))) (below_size (by repeat (first | (with_reducible first | exact HB.out | apply below_alloc | apply pw_below_drewN | apply below_drew1 | refine below_set ?_ GE203.out | refine below_set ?_ GE213.out) | exact HB.out)))); have n3_ := Aside0.mk (blk_below (g := gb203) (o := .cells #[.int .u64 0, .slice none 0 0, .int .u32 0, .slice none 0 0] 66 (0, 0)) (Far.Ba BK203.out) hb); have n4_ := Aside0.mk (blk_below (g := gb213) (o := .cells #[.int .u64 t207, .slice Ao16 t208.length co16, .int .u32 t211] 45 (0, 0)) (Far.Ba BK213.out) hb); have n5_ := Aside0.mk (below_step (by repeat (first | (with_reducible first | exact HB.out | apply below_alloc | apply pw_below_drewN | apply below_drew1 | refine below_set ?_ GE203.out | refine below_set ?_ GE213.out) | exact HB.out)) hb); clear HO_11 HO_214001 BK203 BK213 HB; have HO_11 := n0_; have HO_214001 := n1_; have HO223 := n2_; have BK203 := n3_; have BK213 := n4_; have HB := n5_; clear n0_ n1_ n2_ n3_ n4_ n5_; (try clear hb); (try clear hb2); (try clear hk); (try clear hi); (try clear ho0)))
            go_roundg k1
            case measure => have := HK1.out; omega
            case rel => exact ⟨(t221), (wrap64 (x12_1 + 1)), (by first | rfl | (simp; done) | (simp [*]; done)), H', ⟨by have := HK1.out; omega⟩, ⟨by (with_reducible repeat (first | apply Kd.R_alloc | apply Kd.R_drewN | apply Kd.R_drew)); exact Kd.R_mono HO223.out (fun _ hk => trivial)⟩, ⟨by (with_reducible repeat (first | apply Kd.R_alloc | apply Kd.R_drewN | apply Kd.R_drew)); exact HO_214001.out⟩, ⟨by (with_reducible repeat (first | refine blk_drewN ?_ _ | refine blk_drew ?_ | refine blk_alloc ?_ _)); exact BK203.out⟩, ⟨by (with_reducible repeat (first | refine blk_drewN ?_ _ | refine blk_drew ?_ | refine blk_alloc ?_ _)); exact BK213.out⟩, ⟨by repeat (first | (with_reducible first | exact HB.out | apply below_alloc | apply pw_below_drewN | apply below_drew1 | refine below_set ?_ GE203.out | refine below_set ?_ GE213.out) | exact HB.out)⟩⟩
          · rw [if_neg c22] at H
            have c22b0 : decide ((wrap64 (rd l1 x12_1)) < t219) = false := decide_eq_false c22
            clear c22
            have H' := Aside0.mk H
            clear H
            try go_wp2
            have n0_ := Aside0.mk (Kd.R_drew HO_11.out)
            have n1_ := Aside0.mk (Kd.R_drew HO_214001.out)
            have n2_ := Aside0.mk (blk_drew BK203.out)
            have n3_ := Aside0.mk (blk_drew BK213.out)
            have n4_ := Aside0.mk (below_drew1 HB.out)
            clear HO_11 HO_214001 BK203 BK213 HB
            have HO_11 := n0_
            have HO_214001 := n1_
            have BK203 := n2_
            have BK213 := n3_
            have HB := n4_
            clear n0_ n1_ n2_ n3_ n4_
            have p218 : 0 ≤ (x12_1 : Int) := of_decide_eq_true (by first | (with_reducible assumption) | assumption)
            have q218 : x12_1 < (l1.length : Int) := of_decide_eq_true (by first | (with_reducible assumption) | assumption)
            obtain ⟨ad218, e218, hx218_0⟩ := Kd.at_int HR1.out x12_1 p218 q218
            have hw218_0 := hx218_0
            cases e218
            replace hx218_0 := (HB.out.cell (World.block_lt_of_cell? w _ hx218_0)).trans hx218_0
            replace p218 := eq_true p218
            replace q218 := eq_true q218
            refine start_ (n := 8) (S := fun w' => w'.cell? ⟨gb213, 0, none⟩ = some (.int .u64 t207) ∧ w'.cell? ⟨gb213, 1, none⟩ = some (.slice Ao16 t208.length co16) ∧ w'.cell? ⟨gb213, 2, none⟩ = some (.int .u32 t211) ∧ w'.cell? (ad218.add (x12_1).toNat) = some (.int .u8 (rd l1 x12_1))) (ds := []) #[false, false, false, false, false, false, false, false] (by kernel_rfl) rfl rfl ⟨(blk_cell BK213.out 0).trans rfl, (blk_cell BK213.out 1).trans rfl, (blk_cell BK213.out 2).trans rfl, ((HB.out.cell (World.block_lt_of_cell? w _ hw218_0)).trans hw218_0)⟩ (fun hHeld => ?_); refine with_tabW scullerlaw14_Token.tab6 scullerlaw14_Token.bits6 (fun HT_ HW_ => ?_)
            generalize wr.drew = w28 at HO_11 HO_214001 BK203 BK213 HB hx218_0 hHeld ⊢
            refine pure_ (i := 0) (N := some 31) (v := ?_) (a' := ?_) #[true, false, false, false, false, false, false, false] rfl rfl (any_of HT_.out (by kernel_rfl)) (fun _ _ _ h => h) (Or.inl ⟨by rfl, ?_⟩) ?_ ?_; rotate_left; (intro w'; go_simp; with_reducible rfl); rotate_left; (simp only [Act.put, List.setIfInBounds_toArray, List.set_cons_zero, List.set_cons_succ, i64_w, i32_w]; rfl)
            refine pure_ (i := 1) (N := some 32) (v := ?_) (a' := ?_) #[true, true, false, false, false, false, false, false] rfl rfl (any_of HT_.out (by kernel_rfl)) (fun _ _ _ h => h) (Or.inl ⟨by rfl, ?_⟩) ?_ ?_; rotate_left; (intro w'; go_simp; with_reducible rfl); rotate_left; (simp only [Act.put, List.setIfInBounds_toArray, List.set_cons_zero, List.set_cons_succ, i64_w, i32_w]; rfl)
            refine pure_ (i := 2) (N := some 33) (v := ?_) (a' := ?_) #[true, true, true, false, false, false, false, false] rfl rfl (any_of HT_.out (by kernel_rfl)) (fun _ _ _ h => h) (Or.inl ⟨by rfl, ?_⟩) ?_ ?_; rotate_left; (intro w'; go_simp; with_reducible rfl); rotate_left; (simp only [Act.put, List.setIfInBounds_toArray, List.set_cons_zero, List.set_cons_succ, i64_w, i32_w]; rfl)
            refine take_ (i := 3) (N := some 34) (v := ?_) (a' := ?_) #[true, true, true, true, false, false, false, false] rfl rfl (take_ofW HT_.out HW_.out (by kernel_rfl)) (fun _ _ _ h => h) (Or.inl ⟨by rfl, ?_⟩) hHeld ?_ ?_; rotate_left; (rintro w' ⟨s0, s1, s2, s3⟩; go_simp; with_reducible rfl); rotate_left; (simp only [Act.put, List.setIfInBounds_toArray, List.set_cons_zero, List.set_cons_succ, i64_w, i32_w]; rfl)
            refine pure_ (i := 4) (N := some 35) (v := ?_) (a' := ?_) #[true, true, true, true, true, false, false, false] rfl rfl (any_of HT_.out (by kernel_rfl)) (fun _ _ _ h => h) (Or.inl ⟨by rfl, ?_⟩) ?_ ?_; rotate_left; (intro w'; go_simp; with_reducible rfl); rotate_left; (simp only [Act.put, List.setIfInBounds_toArray, List.set_cons_zero, List.set_cons_succ, i64_w, i32_w]; rfl)
            refine take_ (i := 5) (N := some 36) (v := ?_) (a' := ?_) #[true, true, true, true, true, true, false, false] rfl rfl (take_ofW HT_.out HW_.out (by kernel_rfl)) (fun _ _ _ h => h) (Or.inl ⟨by rfl, ?_⟩) hHeld ?_ ?_; rotate_left; (rintro w' ⟨s0, s1, s2, s3⟩; go_simp; with_reducible rfl); rotate_left; (simp only [Act.put, List.setIfInBounds_toArray, List.set_cons_zero, List.set_cons_succ, i64_w, i32_w]; rfl)
            refine one_ (i := 6) (N := some 37) #[true, true, true, true, true, true, true, false] rfl rfl (one_of HT_.out (by kernel_rfl)) (by decide) (fun K hK => ?_)
            refine goes_ Try.func97 (by kernel_rfl) rfl #[.agg #[.int .u64 t207, .slice Ao16 t208.length co16, .int .u32 t211]] (by rfl) rfl rfl (by (try simp only [List.map_toArray, List.map_cons, List.map_nil]); first | done | rfl | (simp only [List.length_drop, List.length_take]; rfl)) ?_
            with_reducible refine (scullerref12_Chunks.calls k1 t207 _ _ t208 t211 t219 _ ?side1 ?side2 A21.out).mono ?_
            (case side1 => repeat (first | exact (Kd.R_reads' HO_214001.out).2.2 | (with_reducible refine Kd.C_alloc ?_ _) | (with_reducible refine Kd.C_drewN ?_ _) | (with_reducible refine Kd.C_drew ?_)))
            (case side2 => exact (Kd.R_reads' HO_214001.out).2.1)
            rintro e w29 ⟨rfl, hb⟩
            refine ⟨_, rfl, ?_⟩
            have n0_ := Aside0.mk (Kd.R_below (Far.Ra HO_11.out) hb)
            have n1_ := Aside0.mk (Kd.R_below (Far.Ra HO_214001.out) hb)
            have n2_ := Aside0.mk (blk_below (g := gb203) (o := .cells #[.int .u64 0, .slice none 0 0, .int .u32 0, .slice none 0 0] 66 (0, 0)) (Far.Ba BK203.out) hb)
            have n3_ := Aside0.mk (blk_below (g := gb213) (o := .cells #[.int .u64 t207, .slice Ao16 t208.length co16, .int .u32 t211] 45 (0, 0)) (Far.Ba BK213.out) hb)
            have n4_ := Aside0.mk (below_step (by repeat (first | (with_reducible first | exact HB.out | apply below_alloc | apply pw_below_drewN | apply below_drew1 | refine below_set ?_ GE203.out | refine below_set ?_ GE213.out) | exact HB.out)) hb)
            clear HO_11 HO_214001 BK203 BK213 HB
            have HO_11 := n0_
            have HO_214001 := n1_
            have BK203 := n2_
            have BK213 := n3_
            have HB := n4_
            clear n0_ n1_ n2_ n3_ n4_
            (try clear hb)
            (try clear hb2)
            (try clear hk)
            (try clear hi)
            refine hK.out _ _ ⟨(blk_cell BK213.out 0).trans rfl, (blk_cell BK213.out 1).trans rfl, (blk_cell BK213.out 2).trans rfl, ((HB.out.cell (World.block_lt_of_cell? w _ hw218_0)).trans hw218_0)⟩ (fun hHeld => ?_)
            clear hK K
            refine norm_ (a' := ?_) ?_ ?_
            rotate_left
            · show Act.put _ (some 37) _ = _
              simp only [Act.put, List.setIfInBounds_toArray, List.set_cons_zero, List.set_cons_succ, i64_w, i32_w]
              rfl
            refine pure_ (i := 7) (N := some 38) (v := ?_) (a' := ?_) #[true, true, true, true, true, true, true, true] rfl rfl (any_of HT_.out (by kernel_rfl)) (fun _ _ _ h => h) (Or.inl ⟨by rfl, ?_⟩) ?_ ?_; rotate_left; (intro w'; go_simp; with_reducible rfl); rotate_left; (simp only [Act.put, List.setIfInBounds_toArray, List.set_cons_zero, List.set_cons_succ, i64_w, i32_w]; rfl)
            refine done_ (done_of HT_.out (by kernel_rfl)) ?_
            try go_wp2
            go_roundg k1
            case measure => have := HK1.out; omega
            case rel => exact ⟨(x11_1), (wrap64 (x12_1 + 1)), (by first | rfl | (simp; done) | (simp [*]; done)), H', ⟨by have := HK1.out; omega⟩, ⟨by (with_reducible repeat (first | apply Kd.R_alloc | apply Kd.R_drewN | apply Kd.R_drew)); exact HO_11.out⟩, ⟨by (with_reducible repeat (first | apply Kd.R_alloc | apply Kd.R_drewN | apply Kd.R_drew)); exact HO_214001.out⟩, ⟨by (with_reducible repeat (first | refine blk_drewN ?_ _ | refine blk_drew ?_ | refine blk_alloc ?_ _)); exact BK203.out⟩, ⟨by (with_reducible repeat (first | refine blk_drewN ?_ _ | refine blk_drew ?_ | refine blk_alloc ?_ _)); exact BK213.out⟩, ⟨by repeat (first | (with_reducible first | exact HB.out | apply below_alloc | apply pw_below_drewN | apply below_drew1 | refine below_set ?_ GE203.out | refine below_set ?_ GE213.out) | exact HB.out)⟩⟩
        · rw [if_neg c20] at H
          exact absurd H (by simp)
      · rw [if_neg c19] at H
        have c19b0 : decide (x12_1 < (l1.length : Int)) = false := decide_eq_false c19
        clear c19
        simp only [Option.some.injEq, Prod.mk.injEq] at H
        obtain ⟨rfl, rfl, rfl, rfl⟩ := H
        have hnb30 := NB213_203.out
        have hnc30 := NB203_213.out
        have hcz31_0 : wr.cell? ⟨gb213, 0, none⟩ = some (.int .u64 t207) := (blk_cell BK213.out 0).trans rfl
        have hcz31_1 : wr.cell? ⟨gb213, 1, none⟩ = some (.slice Ao16 t208.length co16) := (blk_cell BK213.out 1).trans rfl
        have hcz31_2 : wr.cell? ⟨gb213, 2, none⟩ = some (.int .u32 t211) := (blk_cell BK213.out 2).trans rfl
        have hfz31_0 := blk_frozen BK213.out 0
        have hfz31_1 := blk_frozen BK213.out 1
        have hfz31_2 := blk_frozen BK213.out 2
        obtain ⟨Ao32, co32, eo32⟩ := Kd.R_slice HO_11.out
        subst eo32
        have hcz33_0 : wr.cell? ⟨gb203, 0, none⟩ = some (.int .u64 0) := (blk_cell BK203.out 0).trans rfl
        have hcz33_1 : wr.cell? ⟨gb203, 1, none⟩ = some (.slice none 0 0) := (blk_cell BK203.out 1).trans rfl
        have hcz33_2 : wr.cell? ⟨gb203, 2, none⟩ = some (.int .u32 0) := (blk_cell BK203.out 2).trans rfl
        have hcz33_3 : wr.cell? ⟨gb203, 3, none⟩ = some (.slice none 0 0) := (blk_cell BK203.out 3).trans rfl
        have hfz33_0 := blk_frozen BK203.out 0
        have hfz33_1 := blk_frozen BK203.out 1
        have hfz33_2 := blk_frozen BK203.out 2
        have hfz33_3 := blk_frozen BK203.out 3
        go_wp2
        refine bodyPost_ret (results_cell_row rfl _ _ gb203 66 #[.int .u64 t207, .slice Ao16 t208.length co16, .int .u32 t211, .slice Ao32 x11_1.length co32] (0, 0) _ rfl (by (with_reducible repeat (first | refine blk_drewN ?_ _ | refine blk_drew ?_ | refine blk_alloc ?_ _)); refine blk_put (cs := #[.int .u64 t207, .slice Ao16 t208.length co16, .int .u32 t211, .slice none 0 0]) ?_ 3 _ rfl; (with_reducible repeat (first | refine blk_drewN ?_ _ | refine blk_drew ?_ | refine blk_alloc ?_ _)); refine blk_put (cs := #[.int .u64 t207, .slice Ao16 t208.length co16, .int .u32 0, .slice none 0 0]) ?_ 2 _ rfl; (with_reducible repeat (first | refine blk_drewN ?_ _ | refine blk_drew ?_ | refine blk_alloc ?_ _)); refine blk_put (cs := #[.int .u64 t207, .slice none 0 0, .int .u32 0, .slice none 0 0]) ?_ 1 _ rfl; (with_reducible repeat (first | refine blk_drewN ?_ _ | refine blk_drew ?_ | refine blk_alloc ?_ _)); refine blk_put (cs := #[.int .u64 0, .slice none 0 0, .int .u32 0, .slice none 0 0]) ?_ 0 _ rfl; (with_reducible repeat (first | refine blk_drewN ?_ _ | refine blk_drew ?_ | refine blk_alloc ?_ _)); exact BK203.out) Try.underlying66 rfl (by kernel_rfl)) rfl ?_
        exact ⟨_, _, by first | rfl | (simp [errW_none, errW_some] <;> rfl) | (simp [*, errW_none, errW_some] <;> rfl) | (refine congrArg (fun z_ : Int => Ending.returned (.bool (z_ == _))) ?_; simp only [IntKind.wrap, IntKind.bits, IntKind.signed]; simp <;> omega), by (with_reducible repeat (first | apply Kd.R_alloc | apply Kd.R_drewN | apply Kd.R_drew)); exact Kd.R_mono (Kd.R_far (p := ⟨gb203, 3, none⟩) (Kd.R_far (p := ⟨gb203, 2, none⟩) (Kd.R_far (p := ⟨gb203, 1, none⟩) (Kd.R_far (p := ⟨gb203, 0, none⟩) (Kd.R_types HO_214001.out BK203.out (by decide)) (fun _ hk => hk.2) (.int .u64 t207)) (fun _ hk => hk.2) (.slice Ao16 t208.length co16)) (fun _ hk => hk.2) (.int .u32 t211)) (fun _ hk => hk.2) (.slice Ao32 x11_1.length co32)) (fun _ hk => trivial), by (with_reducible repeat (first | apply Kd.R_alloc | apply Kd.R_drewN | apply Kd.R_drew)); exact Kd.R_mono (Kd.R_far (p := ⟨gb203, 3, none⟩) (Kd.R_far (p := ⟨gb203, 2, none⟩) (Kd.R_far (p := ⟨gb203, 1, none⟩) (Kd.R_far (p := ⟨gb203, 0, none⟩) (Kd.R_types HO_11.out BK203.out (by decide)) (fun _ hk => hk.2) (.int .u64 t207)) (fun _ hk => hk.2) (.slice Ao16 t208.length co16)) (fun _ hk => hk.2) (.int .u32 t211)) (fun _ hk => hk.2) (.slice Ao32 x11_1.length co32)) (fun _ hk => trivial), by repeat (first | (with_reducible first | exact HB.out | apply below_alloc | apply pw_below_drewN | apply below_drew1 | refine below_set ?_ GE203.out | refine below_set ?_ GE213.out) | exact HB.out)⟩
end Go.Proofs.Ytliohoalackhiaa.T
