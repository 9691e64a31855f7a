/- Written by a program of this repo (wip/tools/gprint.py): what functions of the Go program compute, the proofs that they do, and the rows of statements. Conditions: those in each theorem. -/
import Derived.Test.YtliohoalackhiaaZIx0
import Derived.Test.YtliohoalackhiaaZW
namespace Go.Proofs.Ytliohoalackhiaa.I
open Go.RowKit Go.Proofs.YtliohoalackhiaaW.PrintWords Go.Proofs.YtliohoalackhiaaW.PrintLast Go.Proofs.YtliohoalackhiaaW.PrintMore
attribute [local go_sem] max2_int min2_int max_two min_two max_three min_three max_four min_four   -- for this text's walks alone
set_option linter.unusedVariables false
set_option linter.unusedSimpArgs false
mutual
def scullerlaw13_Gram.j1 : Nat → List Int → Int → Int → Int → Int → Int → Int → List Int → Option (Int × Int × Int × Int × Int × List Int × List Int)
  | 0, _, _, _, _, _, _, _, _ => none
  | k + 1, x4, x5, x153000, x153001, x153002, x153003, x153004, x153005 => if x153000 ≥ 2 then (scullerlaw13_Gram.j2 k x4 x5 (decide (x153000 ≤ 4)) x153000 x153001 x153002 x153003 x153004 x153005) else (scullerlaw13_Gram.j2 k x4 x5 false x153000 x153001 x153002 x153003 x153004 x153005)
def scullerlaw13_Gram.j2 : Nat → List Int → Int → Bool → Int → Int → Int → Int → Int → List Int → Option (Int × Int × Int × Int × Int × List Int × List Int)
  | 0, _, _, _, _, _, _, _, _, _ => none
  | k + 1, x4, x5, x66, x153000, x153001, x153002, x153003, x153004, x153005 => if x66 = true then (if 0 ≤ (mn (x4.length : Int) 64) then (if (mn (x4.length : Int) 64) ≤ (x4.length : Int) then ((some (x4.take ((mn (x4.length : Int) 64) : Int).toNat : List Int)).bind fun y158 => (if ([] : List Int).length + y158.length < 140737488355328 then ((some (([] : List Int) ++ y158 : List Int)).bind fun y163 => (if x5 > 230 then (some (wrap64 (x5), x153001, (-1), x153003, x153004, x153005, y163)) else (some (x153000, x153001, x153002, x153003, x153004, x153005, y163)))) else (none))) else (none)) else (none)) else (if x5 > 230 then (some (wrap64 (x5), x153001, (-1), x153003, x153004, x153005, ([] : List Int))) else (some (x153000, x153001, x153002, x153003, x153004, x153005, ([] : List Int))))
def scullerlaw13_Gram.l0 : Nat → List Int → Int → Int → Int → Int → Int → Int → Int → List Int → Option (Int × Int × Int × Int × Int × List Int × List Int)
  | 0, _, _, _, _, _, _, _, _, _ => none
  | k + 1, x4, x5, x14, x153000, x153001, x153002, x153003, x153004, x153005 => if (wrap64 (x14 + 1)) < (x4.length : Int) then (if x14 < 8 then (if 0 ≤ x14 then (if x14 < (x4.length : Int) then (if 0 ≤ (wrap64 (x14 + 1)) then (if x153005.length < 17592186044416 then (scullerlaw13_Gram.l0 k x4 x5 (wrap64 (x14 + 2)) x153000 x153001 x153002 x153003 x153004 (x153005 ++ [Int.tmod (wrap64 ((wrap64 ((wrap64 (rd x4 x14)) * 256)) + (wrap64 (rd x4 (wrap64 (x14 + 1)))))) 4097])) else (none)) else (none)) else (none)) else (none)) else (scullerlaw13_Gram.j1 k x4 x5 x153000 x153001 x153002 x153003 x153004 x153005)) else (scullerlaw13_Gram.j1 k x4 x5 x153000 x153001 x153002 x153003 x153004 x153005)
end
def scullerlaw13_Gram.f (k : Nat) (a0 : Int) (a1 : Int) (a2 : Int) (a3 : Int) (l4 : List Int) (a5 : Int) : Option (Int × Int × Int × Int × Int × List Int × List Int) := if (wrap64 (1 + (wrap64 (Int.tmod a5 8)))) = 1 then (scullerlaw13_Gram.l0 k l4 a5 0 (wrap64 (1 + (wrap64 (Int.tmod a5 8)))) a0 (wrap64 (a2)) (wrap64 (a3)) a1 ([] : List Int)) else (scullerlaw13_Gram.j1 k l4 a5 (wrap64 (1 + (wrap64 (Int.tmod a5 8)))) a0 (wrap64 (a2)) (wrap64 (a3)) a1 ([] : List Int))
def scullerlaw13_Gram.T6 : Bool × List (List Nat × List Nat) := (true, [([], []), ([0], [0]), ([], []), ([], []), ([2, 3], [2, 3]), ([4], [4]), ([5], [5]), ([6], [6]), ([], []), ([], []), ([9], [9]), ([8, 10], [8, 10]), ([11], [11]), ([12], [12]), ([7, 13], [7, 13]), ([14], [14]), ([15], [15]), ([1, 16], [1, 16]), ([0, 1, 2, 3, 4, 5, 6, 7, 8, 9, 10, 11, 12, 13, 14, 15, 16, 17], []), ([18, 17, 17, 0, 1, 2, 3, 4, 5, 6, 7, 8, 9, 10, 11, 12, 13, 14, 15, 16, 17], [17, 18])])
def scullerlaw13_Gram.B6 : List Nat := [0, 1, 0, 0, 12, 28, 60, 124, 0, 0, 512, 1792, 3840, 7936, 16380, 32764, 65532, 131071, 262143, 524287]
theorem scullerlaw13_Gram.tab6 : rtab .any (opsOf Try.f32 6) = scullerlaw13_Gram.T6 := by kernel_rfl
theorem scullerlaw13_Gram.bits6 : waitsOk scullerlaw13_Gram.T6.2 scullerlaw13_Gram.B6 = true := by kernel_rfl
def scullerlaw13_Gram.T8 : Bool × List (List Nat × List Nat) := (true, [([], []), ([0], [0]), ([], []), ([], []), ([3], [3]), ([4], [4]), ([2, 5], [2, 5]), ([1, 6], [1, 6]), ([0, 1, 2, 3, 4, 5, 6, 7], []), ([8, 7, 7, 0, 1, 2, 3, 4, 5, 6, 7], [7, 8])])
def scullerlaw13_Gram.B8 : List Nat := [0, 1, 0, 0, 8, 24, 60, 127, 255, 511]
theorem scullerlaw13_Gram.tab8 : rtab .any (opsOf Try.f32 8) = scullerlaw13_Gram.T8 := by kernel_rfl
theorem scullerlaw13_Gram.bits8 : waitsOk scullerlaw13_Gram.T8.2 scullerlaw13_Gram.B8 = true := by kernel_rfl
set_option maxHeartbeats 8000000 in
set_option maxRecDepth 100000 in
theorem scullerlaw13_Gram.calls (k : Nat) (a0 : Int) (a1 : Int) (a2 : Int) (a3 : Int) (P4_ : Nat → Prop) (A4 : Option Addr) (c4 : Nat) (l4 : List Int) (a5 : Int) (r1 : Int) (r2 : Int) (r3 : Int) (r4 : Int) (r5 : Int) (r6 : List Int) (r7 : List Int) (w : World) (hs4 : Kd.V (Kd.int .u8) 5 w w.heap.size (fun k_ => P4_ k_) (.slice A4 l4.length c4) l4) (h : scullerlaw13_Gram.f k a0 a1 a2 a3 l4 a5 = some (r1, r2, r3, r4, r5, r6, r7)) :
    Calls Try.prog 32 #[.int .u64 a0, .int .u32 a1, .int .u16 a2, .int .u16 a3, .slice A4 l4.length c4, .int .u8 a5] w fun e w' => ∃ v5_ v6_ : Value, e = .returned (.agg #[.int .i64 r1, .int .u64 r2, .int .i64 r3, .int .i64 r4, .int .u32 r5, v5_, v6_]) ∧ Kd.R (Kd.int .i64) 3 w' w.heap.size (fun k_ => (w.heap.size ≤ k_)) v5_ r6 ∧ Kd.R (Kd.int .u8) 5 w' w.heap.size (fun k_ => (w.heap.size ≤ k_)) v6_ r7 ∧ Below w.heap.size w w' := by
  have hu56 := Try.underlying56
  have HO4 := Aside0.mk (show Kd.V (Kd.int .u8) 5 w w.heap.size (fun k_ => (P4_ k_ ∨ w.heap.size ≤ k_)) (.slice A4 l4.length c4) l4 from Kd.V_mono hs4 (fun k_ hk => .inl hk))
  have HB := Aside0.mk (Below.refl w.heap.size w)
  have H : (if (wrap64 (1 + (wrap64 (Int.tmod a5 8)))) = 1 then (scullerlaw13_Gram.l0 k l4 a5 0 (wrap64 (1 + (wrap64 (Int.tmod a5 8)))) a0 (wrap64 (a2)) (wrap64 (a3)) a1 ([] : List Int)) else (scullerlaw13_Gram.j1 k l4 a5 (wrap64 (1 + (wrap64 (Int.tmod a5 8)))) a0 (wrap64 (a2)) (wrap64 (a3)) a1 ([] : List Int))) = some (r1, r2, r3, r4, r5, r6, r7) := h
  clear h
  have HC7 := Aside0.mk H
  clear H
  go_enter Try.func32, Try.ntmps32
  go_upto_if 28 with (first | ((with_reducible refine gate_dst (N := 12) rfl ?_); refine box_event ?hg (N := 12) ?hd (cs := #[.int .i64 0, .int .u64 0, .int .i64 0, .int .i64 0, .int .u32 0, .slice none 0 0, .slice none 0 0]) (t := 56) ?hr ?_; (case hd => rfl); (case hg => rfl); (case hr => first | (go_simp; done) | (go_simp; rfl)); intro gb151 hg w8 hbox hb; have n0_ := Aside0.mk (Kd.V_below (Kd.V_elderB (by (with_reducible repeat (first | apply Kd.V_alloc | apply Kd.V_drewN | apply Kd.V_drew)); exact HO4.out) gb151 (Nat.le_of_eq hg.symm)) hb); have n1_ := Aside0.mk (below_step (Far.Bb HB.out) hb); have n2_ := Aside0.mk (hbox); have n3_ := Aside0.mk ((by rw [hg]; exact (below_size (Far.Bb HB.out)) : w.heap.size ≤ gb151)); have n4_ := Aside0.mk ((by rw [hg]; exact (below_size (Far.Bb HB.out)) : w.heap.size ≤ gb151)); clear HO4 HB; have HO4 := n0_; have HB := n1_; have BK151 := n2_; have GW151 := n3_; have GE151 := n4_; clear n0_ n1_ n2_ n3_ n4_; clear hb hbox hg) | ((with_reducible refine gate_dst (N := 13) rfl ?_); refine box_event ?hg (N := 13) ?hd (cs := #[.int .i64 0, .int .u64 0, .int .i64 0, .int .i64 0, .int .u32 0, .slice none 0 0, .slice none 0 0]) (t := 56) ?hr ?_; (case hd => rfl); (case hg => rfl); (case hr => first | (go_simp; done) | (go_simp; rfl)); intro gb152 hg w9 hbox hb; have n0_ := Aside0.mk (Kd.V_below (Kd.V_elderB (by (with_reducible repeat (first | apply Kd.V_alloc | apply Kd.V_drewN | apply Kd.V_drew)); exact HO4.out) gb152 (Nat.le_of_eq hg.symm)) hb); have n1_ := Aside0.mk (blk_below (g := gb151) (o := .cells #[.int .i64 0, .int .u64 0, .int .i64 0, .int .i64 0, .int .u32 0, .slice none 0 0, .slice none 0 0] 56 (0, 0)) (Far.Ba BK151.out) hb); have n2_ := Aside0.mk (below_step (by repeat (first | (with_reducible first | exact HB.out | apply below_alloc | apply pw_below_drewN | apply below_drew1 | refine below_set ?_ GE151.out) | exact HB.out)) hb); have n3_ := Aside0.mk (hbox); have n4_ := Aside0.mk ((by rw [hg]; exact (below_size (by repeat (first | (with_reducible first | exact HB.out | apply below_alloc | apply pw_below_drewN | apply below_drew1 | refine below_set ?_ GE151.out) | exact HB.out))) : w.heap.size ≤ gb152)); have n5_ := Aside0.mk ((by rw [hg]; exact (below_size (by repeat (first | (with_reducible first | exact HB.out | apply below_alloc | apply pw_below_drewN | apply below_drew1 | refine below_set ?_ GE151.out) | exact HB.out))) : w.heap.size ≤ gb152)); have n6_ := Aside0.mk ((by rw [hg]; exact Nat.ne_of_lt (blk_lt (g := gb151) (o := .cells #[.int .i64 0, .int .u64 0, .int .i64 0, .int .i64 0, .int .u32 0, .slice none 0 0, .slice none 0 0] 56 (0, 0)) (Far.Ba BK151.out)) : gb151 ≠ gb152)); have n7_ := Aside0.mk ((by rw [hg]; exact Nat.ne_of_gt (blk_lt (g := gb151) (o := .cells #[.int .i64 0, .int .u64 0, .int .i64 0, .int .i64 0, .int .u32 0, .slice none 0 0, .slice none 0 0] 56 (0, 0)) (Far.Ba BK151.out)) : gb152 ≠ gb151)); clear HO4 BK151 HB; have HO4 := n0_; have BK151 := n1_; have HB := n2_; have BK152 := n3_; have GW152 := n4_; have GE152 := n5_; have NB151_152 := n6_; have NB152_151 := n7_; clear n0_ n1_ n2_ n3_ n4_ n5_ n6_ n7_; clear hb hbox hg; have hnb10 := NB152_151.out; have hnc10 := NB151_152.out; have hcz11_0 : w9.cell? ⟨gb152, 0, none⟩ = some (.int .i64 0) := (blk_cell BK152.out 0).trans rfl; have hcz11_1 : w9.cell? ⟨gb152, 1, none⟩ = some (.int .u64 0) := (blk_cell BK152.out 1).trans rfl; have hcz11_2 : w9.cell? ⟨gb152, 2, none⟩ = some (.int .i64 0) := (blk_cell BK152.out 2).trans rfl; have hcz11_3 : w9.cell? ⟨gb152, 3, none⟩ = some (.int .i64 0) := (blk_cell BK152.out 3).trans rfl; have hcz11_4 : w9.cell? ⟨gb152, 4, none⟩ = some (.int .u32 0) := (blk_cell BK152.out 4).trans rfl; have hcz11_5 : w9.cell? ⟨gb152, 5, none⟩ = some (.slice none 0 0) := (blk_cell BK152.out 5).trans rfl; have hcz11_6 : w9.cell? ⟨gb152, 6, none⟩ = some (.slice none 0 0) := (blk_cell BK152.out 6).trans rfl; have hfz11_0 := blk_frozen BK152.out 0; have hfz11_1 := blk_frozen BK152.out 1; have hfz11_2 := blk_frozen BK152.out 2; have hfz11_3 := blk_frozen BK152.out 3; have hfz11_4 := blk_frozen BK152.out 4; have hfz11_5 := blk_frozen BK152.out 5; have hfz11_6 := blk_frozen BK152.out 6))
  (try simp only [Act.put, List.setIfInBounds_toArray, List.set_cons_zero, List.set_cons_succ])
  go_cut [] (fun wc => ∃ (kq : Nat) (x153005_6 : List Int) (u153005 : Value), Aside0 (scullerlaw13_Gram.j1 kq l4 a5 (wrap64 (1 + (wrap64 (Int.tmod a5 8)))) a0 (wrap64 (a2)) (wrap64 (a3)) a1 x153005_6 = some (r1, r2, r3, r4, r5, r6, r7)) ∧ Aside0 (kq ≤ k) ∧ Aside0 (Kd.V (Kd.int .u8) 5 wc w.heap.size (fun k_ => (P4_ k_ ∨ w.heap.size ≤ k_) ∧ some k_ ≠ (u153005 : Value).ownBlock ∧ k_ ≠ gb151 ∧ k_ ≠ gb152) (.slice A4 l4.length c4) l4) ∧ Aside0 (Kd.R (Kd.int .i64) 3 wc w.heap.size (fun k_ => (w.heap.size ≤ k_)) u153005 x153005_6) ∧ Aside0 (wc.heap[gb151]? = some (.cells #[.int .i64 0, .int .u64 0, .int .i64 0, .int .i64 0, .int .u32 0, (.slice none 0 0), (.slice none 0 0)] 56 (0, 0))) ∧ Aside0 (wc.heap[gb152]? = some (.cells #[.int .i64 (wrap64 (1 + (wrap64 (Int.tmod a5 8)))), .int .u64 a0, .int .i64 (wrap64 (a2)), .int .i64 (wrap64 (a3)), .int .u32 a1, u153005, (.slice none 0 0)] 56 (0, 0))) ∧ Aside0 (Below w.heap.size w wc))
  case first =>
    have H := HC7.out
    clear HC7
    by_cases c12 : (wrap64 (1 + (wrap64 (Int.tmod a5 8)))) = 1
    · rw [if_pos c12] at H
      have c12b0 : ((wrap64 (1 + (wrap64 (Int.tmod a5 8)))) == 1) = true := beq_iff_eq.mpr c12
      have c12b1 : ((wrap64 (1 + (wrap64 (Int.tmod a5 8)))) != 1) = false := bne_eq_false_iff_eq.mpr c12
      clear c12
      (first | rw [c12b0] | (simp only [i64_w, i32_w]; rw [c12b0]) | skip)
      have H' := Aside0.mk H
      clear H
      go_wp2
      go_loopg [14] k (fun kq v14 w' => ∃ (x14_1 : Int) (x153005_1 : List Int) (u153005 : Value), v14 = .int .i64 x14_1 ∧ Aside0 (scullerlaw13_Gram.l0 kq l4 a5 x14_1 (wrap64 (1 + (wrap64 (Int.tmod a5 8)))) a0 (wrap64 (a2)) (wrap64 (a3)) a1 x153005_1 = some (r1, r2, r3, r4, r5, r6, r7)) ∧ Aside0 (kq ≤ k) ∧ Aside0 (Kd.V (Kd.int .u8) 5 w' w.heap.size (fun k_ => (P4_ k_ ∨ w.heap.size ≤ k_) ∧ some k_ ≠ (u153005 : Value).ownBlock ∧ k_ ≠ gb151 ∧ k_ ≠ gb152) (.slice A4 l4.length c4) l4) ∧ Aside0 (Kd.R (Kd.int .i64) 3 w' w.heap.size (fun k_ => (w.heap.size ≤ k_)) u153005 x153005_1) ∧ Aside0 (w'.heap[gb151]? = some (.cells #[.int .i64 0, .int .u64 0, .int .i64 0, .int .i64 0, .int .u32 0, (.slice none 0 0), (.slice none 0 0)] 56 (0, 0))) ∧ Aside0 (w'.heap[gb152]? = some (.cells #[.int .i64 (wrap64 (1 + (wrap64 (Int.tmod a5 8)))), .int .u64 a0, .int .i64 (wrap64 (a2)), .int .i64 (wrap64 (a3)), .int .u32 a1, u153005, (.slice none 0 0)] 56 (0, 0))) ∧ Aside0 (Below w.heap.size w w'))
      case atStart => exact ⟨(0), (([] : List Int)), (.slice none 0 0), (by first | rfl | (simp; done) | (simp [*]; done)), H', ⟨Nat.le_refl _⟩, ⟨by (with_reducible repeat (first | apply Kd.V_alloc | apply Kd.V_drewN | apply Kd.V_drew)); exact Kd.V_mono (Kd.V_far (p := ⟨gb152, 6, none⟩) (Kd.V_far (p := ⟨gb152, 5, none⟩) (Kd.V_far (p := ⟨gb152, 4, none⟩) (Kd.V_far (p := ⟨gb152, 3, none⟩) (Kd.V_far (p := ⟨gb152, 2, none⟩) (Kd.V_far (p := ⟨gb152, 1, none⟩) (Kd.V_far (p := ⟨gb152, 0, none⟩) (Kd.V_mono HO4.out (fun k_ hk => (⟨hk, hk.2⟩ : _ ∧ k_ ≠ gb152))) (fun _ hk => hk.2) (.int .i64 (wrap64 (1 + (wrap64 (Int.tmod a5 8)))))) (fun _ hk => hk.2) (.int .u64 a0)) (fun _ hk => hk.2) (.int .i64 (wrap64 (a2)))) (fun _ hk => hk.2) (.int .i64 (wrap64 (a3)))) (fun _ hk => hk.2) (.int .u32 a1)) (fun _ hk => hk.2) (.slice none 0 0)) (fun _ hk => hk.2) (.slice none 0 0)) (fun _ hk => ⟨hk.1.1.1, ⟨(by simp [Value.ownBlock]), ⟨hk.1.1.2, hk.1.2⟩⟩⟩)⟩, ⟨by first | exact Kd.R_nil _ _ _ _ _ | exact Kd.N_nil _ _ _ _ _ | exact Kd.V_nil _ _ _ _ _ | exact Kd.Q_nil _ _ _ _ _ | exact Kd.S_nil _ _ _ _ _⟩, ⟨by (with_reducible repeat (first | refine blk_drewN ?_ _ | refine blk_drew ?_ | refine blk_alloc ?_ _)); refine blk_far ?_ NB151_152.out _; (with_reducible repeat (first | refine blk_drewN ?_ _ | refine blk_drew ?_ | refine blk_alloc ?_ _)); refine blk_far ?_ NB151_152.out _; (with_reducible repeat (first | refine blk_drewN ?_ _ | refine blk_drew ?_ | refine blk_alloc ?_ _)); refine blk_far ?_ NB151_152.out _; (with_reducible repeat (first | refine blk_drewN ?_ _ | refine blk_drew ?_ | refine blk_alloc ?_ _)); refine blk_far ?_ NB151_152.out _; (with_reducible repeat (first | refine blk_drewN ?_ _ | refine blk_drew ?_ | refine blk_alloc ?_ _)); refine blk_far ?_ NB151_152.out _; (with_reducible repeat (first | refine blk_drewN ?_ _ | refine blk_drew ?_ | refine blk_alloc ?_ _)); refine blk_far ?_ NB151_152.out _; (with_reducible repeat (first | refine blk_drewN ?_ _ | refine blk_drew ?_ | refine blk_alloc ?_ _)); refine blk_far ?_ NB151_152.out _; (with_reducible repeat (first | refine blk_drewN ?_ _ | refine blk_drew ?_ | refine blk_alloc ?_ _)); exact BK151.out⟩, ⟨by (with_reducible repeat (first | refine blk_drewN ?_ _ | refine blk_drew ?_ | refine blk_alloc ?_ _)); refine blk_put (cs := #[.int .i64 (wrap64 (1 + (wrap64 (Int.tmod a5 8)))), .int .u64 a0, .int .i64 (wrap64 (a2)), .int .i64 (wrap64 (a3)), .int .u32 a1, .slice none 0 0, .slice none 0 0]) ?_ 6 _ rfl; (with_reducible repeat (first | refine blk_drewN ?_ _ | refine blk_drew ?_ | refine blk_alloc ?_ _)); refine blk_put (cs := #[.int .i64 (wrap64 (1 + (wrap64 (Int.tmod a5 8)))), .int .u64 a0, .int .i64 (wrap64 (a2)), .int .i64 (wrap64 (a3)), .int .u32 a1, .slice none 0 0, .slice none 0 0]) ?_ 5 _ rfl; (with_reducible repeat (first | refine blk_drewN ?_ _ | refine blk_drew ?_ | refine blk_alloc ?_ _)); refine blk_put (cs := #[.int .i64 (wrap64 (1 + (wrap64 (Int.tmod a5 8)))), .int .u64 a0, .int .i64 (wrap64 (a2)), .int .i64 (wrap64 (a3)), .int .u32 0, .slice none 0 0, .slice none 0 0]) ?_ 4 _ rfl; (with_reducible repeat (first | refine blk_drewN ?_ _ | refine blk_drew ?_ | refine blk_alloc ?_ _)); refine blk_put (cs := #[.int .i64 (wrap64 (1 + (wrap64 (Int.tmod a5 8)))), .int .u64 a0, .int .i64 (wrap64 (a2)), .int .i64 0, .int .u32 0, .slice none 0 0, .slice none 0 0]) ?_ 3 _ rfl; (with_reducible repeat (first | refine blk_drewN ?_ _ | refine blk_drew ?_ | refine blk_alloc ?_ _)); refine blk_put (cs := #[.int .i64 (wrap64 (1 + (wrap64 (Int.tmod a5 8)))), .int .u64 a0, .int .i64 0, .int .i64 0, .int .u32 0, .slice none 0 0, .slice none 0 0]) ?_ 2 _ rfl; (with_reducible repeat (first | refine blk_drewN ?_ _ | refine blk_drew ?_ | refine blk_alloc ?_ _)); refine blk_put (cs := #[.int .i64 (wrap64 (1 + (wrap64 (Int.tmod a5 8)))), .int .u64 0, .int .i64 0, .int .i64 0, .int .u32 0, .slice none 0 0, .slice none 0 0]) ?_ 1 _ rfl; (with_reducible repeat (first | refine blk_drewN ?_ _ | refine blk_drew ?_ | refine blk_alloc ?_ _)); refine blk_put (cs := #[.int .i64 0, .int .u64 0, .int .i64 0, .int .i64 0, .int .u32 0, .slice none 0 0, .slice none 0 0]) ?_ 0 _ rfl; (with_reducible repeat (first | refine blk_drewN ?_ _ | refine blk_drew ?_ | refine blk_alloc ?_ _)); exact BK152.out⟩, ⟨by repeat (first | (with_reducible first | exact HB.out | apply below_alloc | apply pw_below_drewN | apply below_drew1 | refine below_set ?_ GE151.out | refine below_set ?_ GE152.out) | exact HB.out)⟩⟩
      case round =>
        clear H'; (try clear c1); (try clear p2); (try clear c3); (try clear c4); (try clear p6); (try clear c10); (try clear c12); (try clear c12b0); (try clear c12b1); (try clear hcz11_0); (try clear hcz11_1); (try clear hcz11_2); (try clear hcz11_3); (try clear hcz11_4); (try clear hcz11_5); (try clear hcz11_6); (try clear hfz11_0); (try clear hfz11_1); (try clear hfz11_2); (try clear hfz11_3); (try clear hfz11_4); (try clear hfz11_5); (try clear hfz11_6)
        obtain ⟨x14_1, x153005_1, u153005, rfl, HA, HK1, HO_4, HO_153005, BK151, BK152, HB⟩ := hrel
        cases gk with
        | zero => exact absurd HA.out (by simp [scullerlaw13_Gram.l0])
        | succ k1 =>
          have H := HA.out
          clear HA
          simp only [scullerlaw13_Gram.l0] at H
          by_cases c13 : (wrap64 (x14_1 + 1)) < (l4.length : Int)
          · rw [if_pos c13] at H
            have c13b0 : decide ((wrap64 (x14_1 + 1)) < (l4.length : Int)) = true := decide_eq_true c13
            clear c13
            by_cases c14 : x14_1 < 8
            · rw [if_pos c14] at H
              have c14b0 : decide (x14_1 < 8) = true := decide_eq_true c14
              clear c14
              by_cases c15 : 0 ≤ x14_1
              · rw [if_pos c15] at H
                have c15b0 : decide (0 ≤ x14_1) = true := decide_eq_true c15
                clear c15
                by_cases c16 : x14_1 < (l4.length : Int)
                · rw [if_pos c16] at H
                  have c16b0 : decide (x14_1 < (l4.length : Int)) = true := decide_eq_true c16
                  clear c16
                  obtain ⟨ji17, hji17⟩ : ∃ j_ : Int, (wrap64 (x14_1 + 1)) = j_ := ⟨_, rfl⟩
                  replace H : (if 0 ≤ (ji17) then (if x153005_1.length < 17592186044416 then (scullerlaw13_Gram.l0 k1 l4 a5 (wrap64 (x14_1 + 2)) (wrap64 (1 + (wrap64 (Int.tmod a5 8)))) a0 (wrap64 (a2)) (wrap64 (a3)) a1 (x153005_1 ++ [Int.tmod (wrap64 ((wrap64 ((wrap64 (rd l4 x14_1)) * 256)) + (wrap64 (rd l4 (ji17))))) 4097])) else (none)) else (none)) = some (r1, r2, r3, r4, r5, r6, r7) := by first | (rw [hji17] at H; exact H) | (simp only [hji17] at H ⊢; exact H)
                  (try rw [hji17] at c13b0)
                  have hji17w : (IntKind.i64.wrap (x14_1 + 1)) = ji17 := (i64_w _).trans hji17
                  by_cases c18 : 0 ≤ (ji17)
                  · rw [if_pos c18] at H
                    have c18b0 : decide (0 ≤ (ji17)) = true := decide_eq_true c18
                    clear c18
                    by_cases c19 : x153005_1.length < 17592186044416
                    · rw [if_pos c19] at H
                      have LMc19 := Aside0.mk c19
                      clear c19
                      obtain ⟨y155, hy155⟩ : ∃ y_ : List Int, y_ = (x153005_1 ++ [Int.tmod (wrap64 ((wrap64 ((wrap64 (rd l4 x14_1)) * 256)) + (wrap64 (rd l4 (ji17))))) 4097]) := ⟨_, rfl⟩
                      replace H : (scullerlaw13_Gram.l0 k1 l4 a5 (wrap64 (x14_1 + 2)) (wrap64 (1 + (wrap64 (Int.tmod a5 8)))) a0 (wrap64 (a2)) (wrap64 (a3)) a1 y155) = some (r1, r2, r3, r4, r5, r6, r7) := by first | (rw [hy155]; with_reducible exact H) | (have H2_ := (Option.bind_some _ _).symm.trans H; rw [hy155]; with_reducible exact H2_) | (have H2_ := (Option.bind_some _ _).symm.trans H; with_reducible exact H2_) | with_reducible exact H | (rw [hy155]; exact H) | exact H
                      have Ny155 := Aside0.mk hy155
                      clear hy155
                      have H' := Aside0.mk H
                      clear H
                      try go_wp2
                      have n0_ := Aside0.mk (Kd.V_drew HO_4.out)
                      have n1_ := Aside0.mk (Kd.R_drew HO_153005.out)
                      have n2_ := Aside0.mk (blk_drew BK151.out)
                      have n3_ := Aside0.mk (blk_drew BK152.out)
                      have n4_ := Aside0.mk (below_drew1 HB.out)
                      clear HO_4 HO_153005 BK151 BK152 HB
                      have HO_4 := n0_
                      have HO_153005 := n1_
                      have BK151 := n2_
                      have BK152 := n3_
                      have HB := n4_
                      clear n0_ n1_ n2_ n3_ n4_
                      have p153 : 0 ≤ (x14_1 : Int) := of_decide_eq_true (by first | (with_reducible assumption) | assumption)
                      have q153 : x14_1 < (l4.length : Int) := of_decide_eq_true (by first | (with_reducible assumption) | assumption)
                      obtain ⟨ad153, e153, hx153_0⟩ := Kd.at_int (Kd.V_reads' HO_4.out).2.2 x14_1 p153 q153
                      cases e153
                      replace p153 := eq_true p153
                      replace q153 := eq_true q153
                      have p154 : 0 ≤ ((ji17) : Int) := of_decide_eq_true (by first | (with_reducible assumption) | assumption)
                      have q154 : (ji17) < (l4.length : Int) := of_decide_eq_true (by first | (with_reducible assumption) | assumption)
                      obtain ⟨ad154, e154, hx154_0⟩ := Kd.at_int (Kd.V_reads' HO_4.out).2.2 (ji17) p154 q154
                      obtain rfl : ad153 = ad154 := (by injection e154)
                      replace p154 := eq_true p154
                      replace q154 := eq_true q154
                      refine start_ (n := 20) (S := fun w' => w'.cell? ⟨gb152, 0, none⟩ = some (.int .i64 (wrap64 (1 + (wrap64 (Int.tmod a5 8))))) ∧ w'.cell? ⟨gb152, 1, none⟩ = some (.int .u64 a0) ∧ w'.cell? ⟨gb152, 2, none⟩ = some (.int .i64 (wrap64 (a2))) ∧ w'.cell? ⟨gb152, 3, none⟩ = some (.int .i64 (wrap64 (a3))) ∧ w'.cell? ⟨gb152, 4, none⟩ = some (.int .u32 a1) ∧ w'.cell? ⟨gb152, 5, none⟩ = some (u153005) ∧ w'.cell? ⟨gb152, 6, none⟩ = some (.slice none 0 0) ∧ w'.cell? (ad153.add (x14_1).toNat) = some (.int .u8 (rd l4 x14_1)) ∧ w'.cell? (ad153.add ((ji17)).toNat) = some (.int .u8 (rd l4 (ji17)))) (ds := [17, 19]) #[false, false, false, false, false, false, false, false, false, false, false, false, false, false, false, false, false, false, false, false] (by kernel_rfl) rfl rfl ⟨(blk_cell BK152.out 0).trans rfl, (blk_cell BK152.out 1).trans rfl, (blk_cell BK152.out 2).trans rfl, (blk_cell BK152.out 3).trans rfl, (blk_cell BK152.out 4).trans rfl, (blk_cell BK152.out 5).trans rfl, (blk_cell BK152.out 6).trans rfl, hx153_0, hx154_0⟩ (fun hHeld => ?_); refine with_tabW scullerlaw13_Gram.tab6 scullerlaw13_Gram.bits6 (fun HT_ HW_ => ?_)
                      generalize wr.drew = w20 at HO_4 HO_153005 BK151 BK152 HB hx153_0 hx154_0 hHeld ⊢
                      refine pure_ (i := 0) (N := some 40) (v := ?_) (a' := ?_) #[true, false, false, false, false, false, false, false, false, false, false, false, false, false, false, false, false, false, false, false] rfl rfl (any_of HT_.out (by kernel_rfl)) (fun _ _ _ h => h) (Or.inl ⟨by rfl, ?_⟩) ?_ ?_; rotate_left; (intro w'; go_simp; with_reducible rfl); rotate_left; (simp only [Act.put, List.setIfInBounds_toArray, List.set_cons_zero, List.set_cons_succ, i64_w, i32_w]; rfl)
                      refine pure_ (i := 2) (N := some 42) (v := ?_) (a' := ?_) #[true, false, true, false, false, false, false, false, false, false, false, false, false, false, false, false, false, false, false, false] rfl rfl (any_of HT_.out (by kernel_rfl)) (fun _ _ _ h => h) (Or.inl ⟨by rfl, ?_⟩) ?_ ?_; rotate_left; (intro w'; go_simp; with_reducible rfl); rotate_left; (simp only [Act.put, List.setIfInBounds_toArray, List.set_cons_zero, List.set_cons_succ, i64_w, i32_w]; rfl)
                      refine pure_ (i := 3) (N := some 43) (v := ?_) (a' := ?_) #[true, false, true, true, false, false, false, false, false, false, false, false, false, false, false, false, false, false, false, false] rfl rfl (any_of HT_.out (by kernel_rfl)) (fun _ _ _ h => h) (Or.inl ⟨by rfl, ?_⟩) ?_ ?_; rotate_left; (intro w'; go_simp; with_reducible rfl); rotate_left; (simp only [Act.put, List.setIfInBounds_toArray, List.set_cons_zero, List.set_cons_succ, i64_w, i32_w]; rfl)
                      refine pure_ (i := 4) (N := some 44) (v := ?_) (a' := ?_) #[true, false, true, true, true, false, false, false, false, false, false, false, false, false, false, false, false, false, false, false] rfl rfl (any_of HT_.out (by kernel_rfl)) (fun _ _ _ h => h) (Or.inl ⟨by rfl, ?_⟩) ?_ ?_; rotate_left; (intro w'; go_simp; with_reducible rfl); rotate_left; (simp only [Act.put, List.setIfInBounds_toArray, List.set_cons_zero, List.set_cons_succ, i64_w, i32_w]; rfl)
                      refine pure_ (i := 8) (N := some 48) (v := ?_) (a' := ?_) #[true, false, true, true, true, false, false, false, true, false, false, false, false, false, false, false, false, false, false, false] rfl rfl (any_of HT_.out (by kernel_rfl)) (fun _ _ _ h => h) (Or.inl ⟨by rfl, ?_⟩) ?_ ?_; rotate_left; (intro w'; go_simp; with_reducible rfl); rotate_left; (simp only [Act.put, List.setIfInBounds_toArray, List.set_cons_zero, List.set_cons_succ, i64_w, i32_w]; rfl)
                      refine pure_ (i := 9) (N := some 49) (v := ?_) (a' := ?_) #[true, false, true, true, true, false, false, false, true, true, false, false, false, false, false, false, false, false, false, false] rfl rfl (any_of HT_.out (by kernel_rfl)) (fun _ _ _ h => h) (Or.inl ⟨by rfl, ?_⟩) ?_ ?_; rotate_left; (intro w'; go_simp; with_reducible rfl); rotate_left; (simp only [Act.put, List.setIfInBounds_toArray, List.set_cons_zero, List.set_cons_succ, i64_w, i32_w]; rfl)
                      refine pure_ (i := 10) (N := some 50) (v := ?_) (a' := ?_) #[true, false, true, true, true, false, false, false, true, true, true, false, false, false, false, false, false, false, false, false] rfl rfl (any_of HT_.out (by kernel_rfl)) (fun _ _ _ h => h) (Or.inl ⟨by rfl, ?_⟩) ?_ ?_; rotate_left; (intro w'; go_simp; with_reducible rfl); rotate_left; (simp only [Act.put, List.setIfInBounds_toArray, List.set_cons_zero, List.set_cons_succ, i64_w, i32_w]; rfl)
                      refine pure_ (i := 11) (N := some 51) (v := ?_) (a' := ?_) #[true, false, true, true, true, false, false, false, true, true, true, true, false, false, false, false, false, false, false, false] rfl rfl (any_of HT_.out (by kernel_rfl)) (fun _ _ _ h => h) (Or.inl ⟨by rfl, ?_⟩) ?_ ?_; rotate_left; (intro w'; go_simp; with_reducible rfl); rotate_left; (simp only [Act.put, List.setIfInBounds_toArray, List.set_cons_zero, List.set_cons_succ, i64_w, i32_w]; rfl)
                      refine take_ (i := 1) (N := some 41) (v := ?_) (a' := ?_) #[true, true, true, true, true, false, false, false, true, true, true, true, false, false, false, false, false, false, false, false] rfl rfl (take_ofW HT_.out HW_.out (by kernel_rfl)) (fun _ _ _ h => h) (Or.inl ⟨by rfl, ?_⟩) hHeld ?_ ?_; rotate_left; (rintro w' ⟨s0, s1, s2, s3, s4, s5, s6, s7, s8⟩; go_simp; with_reducible rfl); rotate_left; (simp only [Act.put, List.setIfInBounds_toArray, List.set_cons_zero, List.set_cons_succ, i64_w, i32_w]; rfl)
                      refine take_ (i := 5) (N := some 45) (v := ?_) (a' := ?_) #[true, true, true, true, true, true, false, false, true, true, true, true, false, false, false, false, false, false, false, false] rfl rfl (take_ofW HT_.out HW_.out (by kernel_rfl)) (fun _ _ _ h => h) (Or.inl ⟨by rfl, ?_⟩) hHeld ?_ ?_; rotate_left; (rintro w' ⟨s0, s1, s2, s3, s4, s5, s6, s7, s8⟩; go_simp; with_reducible rfl); rotate_left; (simp only [Act.put, List.setIfInBounds_toArray, List.set_cons_zero, List.set_cons_succ, i64_w, i32_w]; rfl)
                      refine pure_ (i := 6) (N := some 46) (v := ?_) (a' := ?_) #[true, true, true, true, true, true, true, false, true, true, true, true, false, false, false, false, false, false, false, false] rfl rfl (any_of HT_.out (by kernel_rfl)) (fun _ _ _ h => h) (Or.inl ⟨by rfl, ?_⟩) ?_ ?_; rotate_left; (intro w'; go_simp; with_reducible rfl); rotate_left; (simp only [Act.put, List.setIfInBounds_toArray, List.set_cons_zero, List.set_cons_succ, i64_w, i32_w]; rfl)
                      refine pure_ (i := 7) (N := some 47) (v := ?_) (a' := ?_) #[true, true, true, true, true, true, true, true, true, true, true, true, false, false, false, false, false, false, false, false] rfl rfl (any_of HT_.out (by kernel_rfl)) (fun _ _ _ h => h) (Or.inl ⟨by rfl, ?_⟩) ?_ ?_; rotate_left; (intro w'; go_simp; with_reducible rfl); rotate_left; (simp only [Act.put, List.setIfInBounds_toArray, List.set_cons_zero, List.set_cons_succ, i64_w, i32_w]; rfl)
                      refine take_ (i := 12) (N := some 52) (v := ?_) (a' := ?_) #[true, true, true, true, true, true, true, true, true, true, true, true, true, false, false, false, false, false, false, false] rfl rfl (take_ofW HT_.out HW_.out (by kernel_rfl)) (fun _ _ _ h => h) (Or.inl ⟨by rfl, ?_⟩) hHeld ?_ ?_; rotate_left; (rintro w' ⟨s0, s1, s2, s3, s4, s5, s6, s7, s8⟩; go_simp; with_reducible rfl); rotate_left; (simp only [Act.put, List.setIfInBounds_toArray, List.set_cons_zero, List.set_cons_succ, i64_w, i32_w]; rfl)
                      refine pure_ (i := 13) (N := some 53) (v := ?_) (a' := ?_) #[true, true, true, true, true, true, true, true, true, true, true, true, true, true, false, false, false, false, false, false] rfl rfl (any_of HT_.out (by kernel_rfl)) (fun _ _ _ h => h) (Or.inl ⟨by rfl, ?_⟩) ?_ ?_; rotate_left; (intro w'; go_simp; with_reducible rfl); rotate_left; (simp only [Act.put, List.setIfInBounds_toArray, List.set_cons_zero, List.set_cons_succ, i64_w, i32_w]; rfl)
                      refine pure_ (i := 14) (N := some 54) (v := ?_) (a' := ?_) #[true, true, true, true, true, true, true, true, true, true, true, true, true, true, true, false, false, false, false, false] rfl rfl (any_of HT_.out (by kernel_rfl)) (fun _ _ _ h => h) (Or.inl ⟨by rfl, ?_⟩) ?_ ?_; rotate_left; (intro w'; go_simp; with_reducible rfl); rotate_left; (simp only [Act.put, List.setIfInBounds_toArray, List.set_cons_zero, List.set_cons_succ, i64_w, i32_w]; rfl)
                      refine pure_ (i := 15) (N := some 55) (v := ?_) (a' := ?_) #[true, true, true, true, true, true, true, true, true, true, true, true, true, true, true, true, false, false, false, false] rfl rfl (any_of HT_.out (by kernel_rfl)) (fun _ _ _ h => h) (Or.inl ⟨by rfl, ?_⟩) ?_ ?_; rotate_left; (intro w'; go_simp; with_reducible rfl); rotate_left; (simp only [Act.put, List.setIfInBounds_toArray, List.set_cons_zero, List.set_cons_succ, i64_w, i32_w]; rfl)
                      refine one_ (i := 16) (N := some 56) #[true, true, true, true, true, true, true, true, true, true, true, true, true, true, true, true, true, false, false, false] rfl rfl (one_of HT_.out (by kernel_rfl)) (by decide) (fun K hK => ?_)
                      refine value_ (w1 := ?_) (v := ?_) (by rfl) rfl ?_ ?_
                      rotate_left 2
                      · go_simp
                        constructor
                        · rfl
                        · rfl
                      refine hK.out _ _ ⟨(blk_cell (blk_alloc BK152.out _) 0).trans rfl, (blk_cell (blk_alloc BK152.out _) 1).trans rfl, (blk_cell (blk_alloc BK152.out _) 2).trans rfl, (blk_cell (blk_alloc BK152.out _) 3).trans rfl, (blk_cell (blk_alloc BK152.out _) 4).trans rfl, (blk_cell (blk_alloc BK152.out _) 5).trans rfl, (blk_cell (blk_alloc BK152.out _) 6).trans rfl, (World.cell?_alloc_lt _ _ _ (World.block_lt_of_cell? _ _ (hHeld.2.2.2.2.2.2.2.1))).trans (hHeld.2.2.2.2.2.2.2.1), (World.cell?_alloc_lt _ _ _ (World.block_lt_of_cell? _ _ (hHeld.2.2.2.2.2.2.2.2))).trans (hHeld.2.2.2.2.2.2.2.2)⟩ (fun hHeld => ?_)
                      clear hK K
                      refine norm_ (a' := ?_) ?_ ?_
                      rotate_left
                      · show Act.put _ (some 56) _ = _
                        simp only [Act.put, List.setIfInBounds_toArray, List.set_cons_zero, List.set_cons_succ, i64_w, i32_w]
                        rfl
                      refine last_ (i := 17) (N := some 57) #[true, true, true, true, true, true, true, true, true, true, true, true, true, true, true, true, true, true, false, false] rfl rfl (one_of HT_.out (by kernel_rfl)) (by decide) (fun K hK => ?_)
                      refine Kd.R_append_step (Kd.int .i64) (w0 := w) w.heap.size (by rfl) (.tmp 41) (.tmp 56) 42 3 (.int .i64 0) 8 rfl Try.underlying42 info3 rfl (by decide) (by omega) u153005 x153005_1 (Int.tmod (wrap64 ((wrap64 ((wrap64 (rd l4 x14_1)) * 256)) + (wrap64 (rd l4 (ji17))))) 4097) [.int .i64 (Int.tmod (wrap64 ((wrap64 ((wrap64 (rd l4 x14_1)) * 256)) + (wrap64 (rd l4 (ji17))))) 4097)] (fun k_ => (w.heap.size ≤ k_)) (fun _ => False) rfl rfl ?aP (fun _ hk => hk.elim) ?aF ?aO ?aB ?aS ?aL ?_
                      (case aP => exact rfl)
                      (case aB => exact (by repeat (first | (with_reducible first | exact HB.out | apply below_alloc | apply pw_below_drewN | apply below_drew1 | refine below_set ?_ GE151.out | refine below_set ?_ GE152.out) | exact HB.out)))
                      (case aF => exact (fun k_ hk => (Nat.le_trans (below_size (by repeat (first | (with_reducible first | exact HB.out | apply below_alloc | apply pw_below_drewN | apply below_drew1 | refine below_set ?_ GE151.out | refine below_set ?_ GE152.out) | exact HB.out))) hk)))
                      (case aO => exact (Far.Ra HO_153005.out))
                      (case aS => exact (below_size (by repeat (first | (with_reducible first | exact HB.out | apply below_alloc | apply pw_below_drewN | apply below_drew1 | refine below_set ?_ GE151.out | refine below_set ?_ GE152.out) | exact HB.out))))
                      (case aL => have := LMc19.out; omega)
                      intro v156 w21 ho hb hg hat
                      rw [← Ny155.out] at ho
                      have n0_ := Aside0.mk (Kd.V_afterv (ok := (fun k_ => (P4_ k_ ∨ w.heap.size ≤ k_) ∧ k_ ≠ gb151 ∧ k_ ≠ gb152)) (by (with_reducible repeat (first | apply Kd.V_alloc | apply Kd.V_drewN | apply Kd.V_drew)); exact Kd.V_mono HO_4.out (fun _ hk => ⟨⟨hk.1, ⟨hk.2.2.1, hk.2.2.2⟩⟩, hk.2.1⟩)) hg hat)
                      have n1_ := Aside0.mk (blk_grown (g := gb151) (o := .cells #[.int .i64 0, .int .u64 0, .int .i64 0, .int .i64 0, .int .u32 0, .slice none 0 0, .slice none 0 0] 56 (0, 0)) (Far.Ba BK151.out) hg (Kd.R_ne HO_153005.out BK151.out (by decide)))
                      have n2_ := Aside0.mk (blk_grown (g := gb152) (o := .cells #[.int .i64 (wrap64 (1 + (wrap64 (Int.tmod a5 8)))), .int .u64 a0, .int .i64 (wrap64 (a2)), .int .i64 (wrap64 (a3)), .int .u32 a1, u153005, .slice none 0 0] 56 (0, 0)) (Far.Ba BK152.out) hg (Kd.R_ne HO_153005.out BK152.out (by decide)))
                      have n3_ := Aside0.mk (hb)
                      have n4_ := Aside0.mk (ho)
                      clear HO_4 BK151 BK152 HB HO_153005
                      have HO_4 := n0_
                      have BK151 := n1_
                      have BK152 := n2_
                      have HB := n3_
                      have HO157 := n4_
                      clear n0_ n1_ n2_ n3_ n4_; clear ho hb hg hat
                      obtain ⟨Ao22, co22, eo22⟩ := Kd.R_slice HO157.out
                      (first | subst eo22 | (injection eo22 with f1_ f2_ f3_; have f4_ := f1_.symm; have f5_ := f3_.symm; clear f1_ f2_ f3_; subst f4_; subst f5_))
                      refine hK.out _ _ ?_
                      clear hK K
                      refine norm_ (a' := ?_) ?_ ?_
                      rotate_left
                      · show Act.put _ (some 57) _ = _
                        simp only [Act.put, List.setIfInBounds_toArray, List.set_cons_zero, List.set_cons_succ, i64_w, i32_w]
                        rfl
                      refine pure_ (i := 18) (N := some 58) (v := ?_) (a' := ?_) #[true, true, true, true, true, true, true, true, true, true, true, true, true, true, true, true, true, true, true, false] rfl rfl (any_of HT_.out (by kernel_rfl)) (fun _ _ _ h => h) (Or.inl ⟨by rfl, ?_⟩) ?_ ?_; rotate_left; (intro w'; go_simp; with_reducible rfl); rotate_left; (simp only [Act.put, List.setIfInBounds_toArray, List.set_cons_zero, List.set_cons_succ, i64_w, i32_w]; rfl)
                      refine last_ (i := 19) (N := none) #[true, true, true, true, true, true, true, true, true, true, true, true, true, true, true, true, true, true, true, true] rfl rfl (one_of HT_.out (by kernel_rfl)) (by decide) (fun K hK => ?_)
                      have hs23 : w21.cell? ⟨gb152, 5, none⟩ = some (u153005) := (blk_cell BK152.out 5).trans rfl
                      have hfs23 := blk_frozen BK152.out 5
                      have hns23_0 := NB151_152.out
                      have hms23_0 := NB152_151.out
                      refine skip_ (w1 := ?_) (by rfl) rfl ?_ ?_
                      rotate_left
                      · go_simp
                        rfl
                      refine hK.out _ _ ?_
                      clear hK K
                      refine done_ (done_of HT_.out (by kernel_rfl)) ?_
                      try go_wp2
                      go_roundg k1
                      case measure => have := HK1.out; omega
                      case rel => exact ⟨(wrap64 (x14_1 + 2)), (y155), (.slice Ao22 y155.length co22), (by first | rfl | (simp; done) | (simp [*]; done)), H', ⟨by have := HK1.out; omega⟩, ⟨by (with_reducible repeat (first | apply Kd.V_alloc | apply Kd.V_drewN | apply Kd.V_drew)); exact Kd.V_mono (Kd.V_far (p := ⟨gb152, 5, none⟩) (Kd.V_mono HO_4.out (fun k_ hk => (⟨hk, hk.1.2.2⟩ : _ ∧ k_ ≠ gb152))) (fun _ hk => hk.2) (.slice Ao22 y155.length co22)) (fun _ hk => ⟨hk.1.1.1, ⟨hk.1.2, ⟨hk.1.1.2.1, hk.1.1.2.2⟩⟩⟩)⟩, ⟨by (with_reducible repeat (first | apply Kd.R_alloc | apply Kd.R_drewN | apply Kd.R_drew)); exact Kd.R_mono (Kd.R_far (p := ⟨gb152, 5, none⟩) (Kd.R_types HO157.out BK152.out (by decide)) (fun _ hk => hk.2) (.slice Ao22 y155.length co22)) (fun _ hk => hk.1)⟩, ⟨by (with_reducible repeat (first | refine blk_drewN ?_ _ | refine blk_drew ?_ | refine blk_alloc ?_ _)); refine blk_far ?_ NB151_152.out _; (with_reducible repeat (first | refine blk_drewN ?_ _ | refine blk_drew ?_ | refine blk_alloc ?_ _)); exact BK151.out⟩, ⟨by (with_reducible repeat (first | refine blk_drewN ?_ _ | refine blk_drew ?_ | refine blk_alloc ?_ _)); refine blk_put (cs := #[.int .i64 (wrap64 (1 + (wrap64 (Int.tmod a5 8)))), .int .u64 a0, .int .i64 (wrap64 (a2)), .int .i64 (wrap64 (a3)), .int .u32 a1, u153005, .slice none 0 0]) ?_ 5 _ rfl; (with_reducible repeat (first | refine blk_drewN ?_ _ | refine blk_drew ?_ | refine blk_alloc ?_ _)); exact BK152.out⟩, ⟨by repeat (first | (with_reducible first | exact HB.out | apply below_alloc | apply pw_below_drewN | apply below_drew1 | refine below_set ?_ GE151.out | refine below_set ?_ GE152.out) | exact HB.out)⟩⟩
                    · rw [if_neg c19] at H
                      exact absurd H (by simp)
                  · rw [if_neg c18] at H
                    exact absurd H (by simp)
                · rw [if_neg c16] at H
                  exact absurd H (by simp)
              · rw [if_neg c15] at H
                exact absurd H (by simp)
            · rw [if_neg c14] at H
              have c14b0 : decide (x14_1 < 8) = false := decide_eq_false c14
              clear c14
              have H' := Aside0.mk H
              clear H
              go_wp2
              go_meet
              case rel => exact ⟨_, (x153005_1), (u153005), H', ⟨by have := HK1.out; first | omega | exact Nat.le_refl _⟩, ⟨by (with_reducible repeat (first | apply Kd.V_alloc | apply Kd.V_drewN | apply Kd.V_drew)); exact HO_4.out⟩, ⟨by (with_reducible repeat (first | apply Kd.R_alloc | apply Kd.R_drewN | apply Kd.R_drew)); exact HO_153005.out⟩, ⟨by (with_reducible repeat (first | refine blk_drewN ?_ _ | refine blk_drew ?_ | refine blk_alloc ?_ _)); exact BK151.out⟩, ⟨by (with_reducible repeat (first | refine blk_drewN ?_ _ | refine blk_drew ?_ | refine blk_alloc ?_ _)); exact BK152.out⟩, ⟨by repeat (first | (with_reducible first | exact HB.out | apply below_alloc | apply pw_below_drewN | apply below_drew1 | refine below_set ?_ GE151.out | refine below_set ?_ GE152.out) | exact HB.out)⟩⟩
          · rw [if_neg c13] at H
            have c13b0 : decide ((wrap64 (x14_1 + 1)) < (l4.length : Int)) = false := decide_eq_false c13
            clear c13
            have H' := Aside0.mk H
            clear H
            go_wp2
            go_meet
            case rel => exact ⟨_, (x153005_1), (u153005), H', ⟨by have := HK1.out; first | omega | exact Nat.le_refl _⟩, ⟨by (with_reducible repeat (first | apply Kd.V_alloc | apply Kd.V_drewN | apply Kd.V_drew)); exact HO_4.out⟩, ⟨by (with_reducible repeat (first | apply Kd.R_alloc | apply Kd.R_drewN | apply Kd.R_drew)); exact HO_153005.out⟩, ⟨by (with_reducible repeat (first | refine blk_drewN ?_ _ | refine blk_drew ?_ | refine blk_alloc ?_ _)); exact BK151.out⟩, ⟨by (with_reducible repeat (first | refine blk_drewN ?_ _ | refine blk_drew ?_ | refine blk_alloc ?_ _)); exact BK152.out⟩, ⟨by repeat (first | (with_reducible first | exact HB.out | apply below_alloc | apply pw_below_drewN | apply below_drew1 | refine below_set ?_ GE151.out | refine below_set ?_ GE152.out) | exact HB.out)⟩⟩
    · rw [if_neg c12] at H
      have c12b0 : ((wrap64 (1 + (wrap64 (Int.tmod a5 8)))) == 1) = false := beq_eq_false_iff_ne.mpr c12
      have c12b1 : ((wrap64 (1 + (wrap64 (Int.tmod a5 8)))) != 1) = true := bne_iff_ne.mpr c12
      (first | rw [c12b0] | (simp only [i64_w, i32_w]; rw [c12b0]) | skip)
      have H' := Aside0.mk H
      clear H
      go_wp2
      go_meet
      case rel => exact ⟨_, (([] : List Int)), (.slice none 0 0), H', ⟨by first | omega | exact Nat.le_refl _⟩, ⟨by (with_reducible repeat (first | apply Kd.V_alloc | apply Kd.V_drewN | apply Kd.V_drew)); exact Kd.V_mono (Kd.V_far (p := ⟨gb152, 6, none⟩) (Kd.V_far (p := ⟨gb152, 5, none⟩) (Kd.V_far (p := ⟨gb152, 4, none⟩) (Kd.V_far (p := ⟨gb152, 3, none⟩) (Kd.V_far (p := ⟨gb152, 2, none⟩) (Kd.V_far (p := ⟨gb152, 1, none⟩) (Kd.V_far (p := ⟨gb152, 0, none⟩) (Kd.V_mono HO4.out (fun k_ hk => (⟨hk, hk.2⟩ : _ ∧ k_ ≠ gb152))) (fun _ hk => hk.2) (.int .i64 (wrap64 (1 + (wrap64 (Int.tmod a5 8)))))) (fun _ hk => hk.2) (.int .u64 a0)) (fun _ hk => hk.2) (.int .i64 (wrap64 (a2)))) (fun _ hk => hk.2) (.int .i64 (wrap64 (a3)))) (fun _ hk => hk.2) (.int .u32 a1)) (fun _ hk => hk.2) (.slice none 0 0)) (fun _ hk => hk.2) (.slice none 0 0)) (fun _ hk => ⟨hk.1.1.1, ⟨(by simp [Value.ownBlock]), ⟨hk.1.1.2, hk.1.2⟩⟩⟩)⟩, ⟨by first | exact Kd.R_nil _ _ _ _ _ | exact Kd.N_nil _ _ _ _ _ | exact Kd.V_nil _ _ _ _ _ | exact Kd.Q_nil _ _ _ _ _ | exact Kd.S_nil _ _ _ _ _⟩, ⟨by (with_reducible repeat (first | refine blk_drewN ?_ _ | refine blk_drew ?_ | refine blk_alloc ?_ _)); refine blk_far ?_ NB151_152.out _; (with_reducible repeat (first | refine blk_drewN ?_ _ | refine blk_drew ?_ | refine blk_alloc ?_ _)); refine blk_far ?_ NB151_152.out _; (with_reducible repeat (first | refine blk_drewN ?_ _ | refine blk_drew ?_ | refine blk_alloc ?_ _)); refine blk_far ?_ NB151_152.out _; (with_reducible repeat (first | refine blk_drewN ?_ _ | refine blk_drew ?_ | refine blk_alloc ?_ _)); refine blk_far ?_ NB151_152.out _; (with_reducible repeat (first | refine blk_drewN ?_ _ | refine blk_drew ?_ | refine blk_alloc ?_ _)); refine blk_far ?_ NB151_152.out _; (with_reducible repeat (first | refine blk_drewN ?_ _ | refine blk_drew ?_ | refine blk_alloc ?_ _)); refine blk_far ?_ NB151_152.out _; (with_reducible repeat (first | refine blk_drewN ?_ _ | refine blk_drew ?_ | refine blk_alloc ?_ _)); refine blk_far ?_ NB151_152.out _; (with_reducible repeat (first | refine blk_drewN ?_ _ | refine blk_drew ?_ | refine blk_alloc ?_ _)); exact BK151.out⟩, ⟨by (with_reducible repeat (first | refine blk_drewN ?_ _ | refine blk_drew ?_ | refine blk_alloc ?_ _)); refine blk_put (cs := #[.int .i64 (wrap64 (1 + (wrap64 (Int.tmod a5 8)))), .int .u64 a0, .int .i64 (wrap64 (a2)), .int .i64 (wrap64 (a3)), .int .u32 a1, .slice none 0 0, .slice none 0 0]) ?_ 6 _ rfl; (with_reducible repeat (first | refine blk_drewN ?_ _ | refine blk_drew ?_ | refine blk_alloc ?_ _)); refine blk_put (cs := #[.int .i64 (wrap64 (1 + (wrap64 (Int.tmod a5 8)))), .int .u64 a0, .int .i64 (wrap64 (a2)), .int .i64 (wrap64 (a3)), .int .u32 a1, .slice none 0 0, .slice none 0 0]) ?_ 5 _ rfl; (with_reducible repeat (first | refine blk_drewN ?_ _ | refine blk_drew ?_ | refine blk_alloc ?_ _)); refine blk_put (cs := #[.int .i64 (wrap64 (1 + (wrap64 (Int.tmod a5 8)))), .int .u64 a0, .int .i64 (wrap64 (a2)), .int .i64 (wrap64 (a3)), .int .u32 0, .slice none 0 0, .slice none 0 0]) ?_ 4 _ rfl; (with_reducible repeat (first | refine blk_drewN ?_ _ | refine blk_drew ?_ | refine blk_alloc ?_ _)); refine blk_put (cs := #[.int .i64 (wrap64 (1 + (wrap64 (Int.tmod a5 8)))), .int .u64 a0, .int .i64 (wrap64 (a2)), .int .i64 0, .int .u32 0, .slice none 0 0, .slice none 0 0]) ?_ 3 _ rfl; (with_reducible repeat (first | refine blk_drewN ?_ _ | refine blk_drew ?_ | refine blk_alloc ?_ _)); refine blk_put (cs := #[.int .i64 (wrap64 (1 + (wrap64 (Int.tmod a5 8)))), .int .u64 a0, .int .i64 0, .int .i64 0, .int .u32 0, .slice none 0 0, .slice none 0 0]) ?_ 2 _ rfl; (with_reducible repeat (first | refine blk_drewN ?_ _ | refine blk_drew ?_ | refine blk_alloc ?_ _)); refine blk_put (cs := #[.int .i64 (wrap64 (1 + (wrap64 (Int.tmod a5 8)))), .int .u64 0, .int .i64 0, .int .i64 0, .int .u32 0, .slice none 0 0, .slice none 0 0]) ?_ 1 _ rfl; (with_reducible repeat (first | refine blk_drewN ?_ _ | refine blk_drew ?_ | refine blk_alloc ?_ _)); refine blk_put (cs := #[.int .i64 0, .int .u64 0, .int .i64 0, .int .i64 0, .int .u32 0, .slice none 0 0, .slice none 0 0]) ?_ 0 _ rfl; (with_reducible repeat (first | refine blk_drewN ?_ _ | refine blk_drew ?_ | refine blk_alloc ?_ _)); exact BK152.out⟩, ⟨by repeat (first | (with_reducible first | exact HB.out | apply below_alloc | apply pw_below_drewN | apply below_drew1 | refine below_set ?_ GE151.out | refine below_set ?_ GE152.out) | exact HB.out)⟩⟩
  case rest =>
    clear HC7; (try clear c1); (try clear p1); (try clear q1); (try clear hx1); (try clear p2); (try clear c3); (try clear c4); (try clear p6); (try clear c10); (try clear c12); (try clear c12b0); (try clear c12b1); (try clear c13); (try clear c13b0); (try clear c14); (try clear c14b0); (try clear c15); (try clear c15b0); (try clear p15); (try clear q15); (try clear hx15); (try clear c16); (try clear c16b0); (try clear c18); (try clear c18b0); (try clear c19); (try clear hcz11_0); (try clear hcz11_1); (try clear hcz11_2); (try clear hcz11_3); (try clear hcz11_4); (try clear hcz11_5); (try clear hcz11_6); (try clear hfz11_0); (try clear hfz11_1); (try clear hfz11_2); (try clear hfz11_3); (try clear hfz11_4); (try clear hfz11_5); (try clear hfz11_6); (try clear hx153_0); (try clear hx154_0); (try clear p153); (try clear p154); (try clear p2); (try clear p6); (try clear q153); (try clear q154)
    obtain ⟨kq, x153005_6, u153005, HA, HJ6, HO_4, HO_153005, BK151, BK152, HB⟩ := hcut
    cases kq with
    | zero => exact absurd HA.out (by simp [scullerlaw13_Gram.j1])
    | succ kj6 =>
      have H := HA.out
      clear HA
      simp only [scullerlaw13_Gram.j1] at H
      have HC24 := Aside0.mk H
      clear H
      go_upto_region 7 with (fail)
      go_cut [66] (fun v66 wc => ∃ (kq : Nat) (x66_23 : Bool), v66 = .bool x66_23 ∧ Aside0 (scullerlaw13_Gram.j2 kq l4 a5 x66_23 (wrap64 (1 + (wrap64 (Int.tmod a5 8)))) a0 (wrap64 (a2)) (wrap64 (a3)) a1 x153005_6 = some (r1, r2, r3, r4, r5, r6, r7)) ∧ Aside0 (kq ≤ kj6) ∧ Aside0 (Kd.V (Kd.int .u8) 5 wc w.heap.size (fun k_ => (P4_ k_ ∨ w.heap.size ≤ k_) ∧ some k_ ≠ (u153005 : Value).ownBlock ∧ k_ ≠ gb151 ∧ k_ ≠ gb152) (.slice A4 l4.length c4) l4) ∧ Aside0 (Kd.R (Kd.int .i64) 3 wc w.heap.size (fun k_ => (w.heap.size ≤ k_)) u153005 x153005_6) ∧ Aside0 (wc.heap[gb151]? = some (.cells #[.int .i64 0, .int .u64 0, .int .i64 0, .int .i64 0, .int .u32 0, (.slice none 0 0), (.slice none 0 0)] 56 (0, 0))) ∧ Aside0 (wc.heap[gb152]? = some (.cells #[.int .i64 (wrap64 (1 + (wrap64 (Int.tmod a5 8)))), .int .u64 a0, .int .i64 (wrap64 (a2)), .int .i64 (wrap64 (a3)), .int .u32 a1, u153005, (.slice none 0 0)] 56 (0, 0))) ∧ Aside0 (Below w.heap.size w wc))
      case first =>
        have H := HC24.out
        clear HC24
        by_cases c25 : (wrap64 (1 + (wrap64 (Int.tmod a5 8)))) ≥ 2
        · rw [if_pos c25] at H
          have c25b0 : decide (2 ≤ (wrap64 (1 + (wrap64 (Int.tmod a5 8))))) = true := decide_eq_true c25
          clear c25
          (first | rw [c25b0] | (simp only [i64_w, i32_w]; rw [c25b0]) | skip)
          have H' := Aside0.mk H
          clear H
          have hnb26 := NB152_151.out
          have hnc26 := NB151_152.out
          have hcz27_0 : wc.cell? ⟨gb152, 0, none⟩ = some (.int .i64 (wrap64 (1 + (wrap64 (Int.tmod a5 8))))) := (blk_cell BK152.out 0).trans rfl
          have hcz27_1 : wc.cell? ⟨gb152, 1, none⟩ = some (.int .u64 a0) := (blk_cell BK152.out 1).trans rfl
          have hcz27_2 : wc.cell? ⟨gb152, 2, none⟩ = some (.int .i64 (wrap64 (a2))) := (blk_cell BK152.out 2).trans rfl
          have hcz27_3 : wc.cell? ⟨gb152, 3, none⟩ = some (.int .i64 (wrap64 (a3))) := (blk_cell BK152.out 3).trans rfl
          have hcz27_4 : wc.cell? ⟨gb152, 4, none⟩ = some (.int .u32 a1) := (blk_cell BK152.out 4).trans rfl
          have hcz27_5 : wc.cell? ⟨gb152, 5, none⟩ = some (u153005) := (blk_cell BK152.out 5).trans rfl
          have hcz27_6 : wc.cell? ⟨gb152, 6, none⟩ = some (.slice none 0 0) := (blk_cell BK152.out 6).trans rfl
          have hfz27_0 := blk_frozen BK152.out 0
          have hfz27_1 := blk_frozen BK152.out 1
          have hfz27_2 := blk_frozen BK152.out 2
          have hfz27_3 := blk_frozen BK152.out 3
          have hfz27_4 := blk_frozen BK152.out 4
          have hfz27_5 := blk_frozen BK152.out 5
          have hfz27_6 := blk_frozen BK152.out 6
          go_wp2
          go_meet
          case rel => exact ⟨_, (decide ((wrap64 (1 + (wrap64 (Int.tmod a5 8)))) ≤ 4)), (by first | rfl | (simp; done) | (simp [*]; done)), H', ⟨by have := HJ6.out; first | omega | exact Nat.le_refl _⟩, ⟨by (with_reducible repeat (first | apply Kd.V_alloc | apply Kd.V_drewN | apply Kd.V_drew)); exact HO_4.out⟩, ⟨by (with_reducible repeat (first | apply Kd.R_alloc | apply Kd.R_drewN | apply Kd.R_drew)); exact HO_153005.out⟩, ⟨by (with_reducible repeat (first | refine blk_drewN ?_ _ | refine blk_drew ?_ | refine blk_alloc ?_ _)); exact BK151.out⟩, ⟨by (with_reducible repeat (first | refine blk_drewN ?_ _ | refine blk_drew ?_ | refine blk_alloc ?_ _)); exact BK152.out⟩, ⟨by repeat (first | (with_reducible first | exact HB.out | apply below_alloc | apply pw_below_drewN | apply below_drew1 | refine below_set ?_ GE151.out | refine below_set ?_ GE152.out) | exact HB.out)⟩⟩
        · rw [if_neg c25] at H
          have c25b0 : decide (2 ≤ (wrap64 (1 + (wrap64 (Int.tmod a5 8))))) = false := decide_eq_false c25
          clear c25
          (first | rw [c25b0] | (simp only [i64_w, i32_w]; rw [c25b0]) | skip)
          have H' := Aside0.mk H
          clear H
          have hnb28 := NB152_151.out
          have hnc28 := NB151_152.out
          have hcz29_0 : wc.cell? ⟨gb152, 0, none⟩ = some (.int .i64 (wrap64 (1 + (wrap64 (Int.tmod a5 8))))) := (blk_cell BK152.out 0).trans rfl
          have hcz29_1 : wc.cell? ⟨gb152, 1, none⟩ = some (.int .u64 a0) := (blk_cell BK152.out 1).trans rfl
          have hcz29_2 : wc.cell? ⟨gb152, 2, none⟩ = some (.int .i64 (wrap64 (a2))) := (blk_cell BK152.out 2).trans rfl
          have hcz29_3 : wc.cell? ⟨gb152, 3, none⟩ = some (.int .i64 (wrap64 (a3))) := (blk_cell BK152.out 3).trans rfl
          have hcz29_4 : wc.cell? ⟨gb152, 4, none⟩ = some (.int .u32 a1) := (blk_cell BK152.out 4).trans rfl
          have hcz29_5 : wc.cell? ⟨gb152, 5, none⟩ = some (u153005) := (blk_cell BK152.out 5).trans rfl
          have hcz29_6 : wc.cell? ⟨gb152, 6, none⟩ = some (.slice none 0 0) := (blk_cell BK152.out 6).trans rfl
          have hfz29_0 := blk_frozen BK152.out 0
          have hfz29_1 := blk_frozen BK152.out 1
          have hfz29_2 := blk_frozen BK152.out 2
          have hfz29_3 := blk_frozen BK152.out 3
          have hfz29_4 := blk_frozen BK152.out 4
          have hfz29_5 := blk_frozen BK152.out 5
          have hfz29_6 := blk_frozen BK152.out 6
          go_wp2
          go_meet
          case rel => exact ⟨_, (false), (by first | rfl | (simp; done) | (simp [*]; done)), H', ⟨by have := HJ6.out; first | omega | exact Nat.le_refl _⟩, ⟨by (with_reducible repeat (first | apply Kd.V_alloc | apply Kd.V_drewN | apply Kd.V_drew)); exact HO_4.out⟩, ⟨by (with_reducible repeat (first | apply Kd.R_alloc | apply Kd.R_drewN | apply Kd.R_drew)); exact HO_153005.out⟩, ⟨by (with_reducible repeat (first | refine blk_drewN ?_ _ | refine blk_drew ?_ | refine blk_alloc ?_ _)); exact BK151.out⟩, ⟨by (with_reducible repeat (first | refine blk_drewN ?_ _ | refine blk_drew ?_ | refine blk_alloc ?_ _)); exact BK152.out⟩, ⟨by repeat (first | (with_reducible first | exact HB.out | apply below_alloc | apply pw_below_drewN | apply below_drew1 | refine below_set ?_ GE151.out | refine below_set ?_ GE152.out) | exact HB.out)⟩⟩
      case rest =>
        clear HC24; (try clear c1); (try clear p1); (try clear q1); (try clear hx1); (try clear c2); (try clear p2); (try clear c3); (try clear c4); (try clear p6); (try clear c10); (try clear c12); (try clear c12b0); (try clear c12b1); (try clear c13); (try clear c13b0); (try clear c14); (try clear c14b0); (try clear c15); (try clear c15b0); (try clear p15); (try clear q15); (try clear hx15); (try clear c16); (try clear c16b0); (try clear c18); (try clear c18b0); (try clear c19); (try clear c25); (try clear c25b0); (try clear c26); (try clear c28); (try clear hcz11_0); (try clear hcz11_1); (try clear hcz11_2); (try clear hcz11_3); (try clear hcz11_4); (try clear hcz11_5); (try clear hcz11_6); (try clear hcz27_0); (try clear hcz27_1); (try clear hcz27_2); (try clear hcz27_3); (try clear hcz27_4); (try clear hcz27_5); (try clear hcz27_6); (try clear hcz29_0); (try clear hcz29_1); (try clear hcz29_2); (try clear hcz29_3); (try clear hcz29_4); (try clear hcz29_5); (try clear hcz29_6); (try clear hfz11_0); (try clear hfz11_1); (try clear hfz11_2); (try clear hfz11_3); (try clear hfz11_4); (try clear hfz11_5); (try clear hfz11_6); (try clear hfz27_0); (try clear hfz27_1); (try clear hfz27_2); (try clear hfz27_3); (try clear hfz27_4); (try clear hfz27_5); (try clear hfz27_6); (try clear hfz29_0); (try clear hfz29_1); (try clear hfz29_2); (try clear hfz29_3); (try clear hfz29_4); (try clear hfz29_5); (try clear hfz29_6); (try clear hx153_0); (try clear hx154_0); (try clear p1); (try clear p15); (try clear p153); (try clear p154); (try clear p2); (try clear p6); (try clear q1); (try clear q15); (try clear q153); (try clear q154)
        obtain ⟨kq, x66_23, rfl, HA, HJ23, HO_4, HO_153005, BK151, BK152, HB⟩ := hcut
        cases kq with
        | zero => exact absurd HA.out (by simp [scullerlaw13_Gram.j2])
        | succ kj23 =>
          have H := HA.out
          clear HA
          simp only [scullerlaw13_Gram.j2] at H
          by_cases c30 : x66_23 = true
          · subst c30
            have H1 : (if 0 ≤ (mn (l4.length : Int) 64) then (if (mn (l4.length : Int) 64) ≤ (l4.length : Int) then ((some (l4.take ((mn (l4.length : Int) 64) : Int).toNat : List Int)).bind fun y158 => (if ([] : List Int).length + y158.length < 140737488355328 then ((some (([] : List Int) ++ y158 : List Int)).bind fun y163 => (if a5 > 230 then (some (wrap64 (a5), a0, (-1), (wrap64 (a3)), a1, x153005_6, y163)) else (some ((wrap64 (1 + (wrap64 (Int.tmod a5 8)))), a0, (wrap64 (a2)), (wrap64 (a3)), a1, x153005_6, y163)))) else (none))) else (none)) else (none)) = some (r1, r2, r3, r4, r5, r6, r7) := by rw [if_pos rfl] at H; exact H
            clear H
            have H := H1
            clear H1
            obtain ⟨ji31, hji31⟩ : ∃ j_ : Int, (mn (l4.length : Int) 64) = j_ := ⟨_, rfl⟩
            replace H : (if 0 ≤ (ji31) then (if (ji31) ≤ (l4.length : Int) then ((some (l4.take ((ji31) : Int).toNat : List Int)).bind fun y158 => (if ([] : List Int).length + y158.length < 140737488355328 then ((some (([] : List Int) ++ y158 : List Int)).bind fun y163 => (if a5 > 230 then (some (wrap64 (a5), a0, (-1), (wrap64 (a3)), a1, x153005_6, y163)) else (some ((wrap64 (1 + (wrap64 (Int.tmod a5 8)))), a0, (wrap64 (a2)), (wrap64 (a3)), a1, x153005_6, y163)))) else (none))) else (none)) else (none)) = some (r1, r2, r3, r4, r5, r6, r7) := by first | (rw [hji31] at H; exact H) | (simp only [hji31] at H ⊢; exact H)
            have hji31_ : (if 64 < (l4.length : Int) then 64 else (l4.length : Int)) = ji31 := hji31
            by_cases c32 : 0 ≤ (ji31)
            · rw [if_pos c32] at H
              have c32b0 := eq_true c32
              have c32b1 : decide (0 ≤ (ji31)) = true := decide_eq_true c32
              clear c32
              by_cases c33 : (ji31) ≤ (l4.length : Int)
              · rw [if_pos c33] at H
                have c33b0 := eq_true c33
                have c33b1 : decide ((ji31) ≤ (l4.length : Int)) = true := decide_eq_true c33
                (try have c33kb1 : (((ji31)) ≤ (c4 : Int)) = True := eq_true (by have h_ := HC4.out; have q_ := of_decide_eq_true c33b1; omega))
                clear c33
                obtain ⟨y158, hy158⟩ : ∃ y_ : List Int, y_ = (l4.take ((ji31) : Int).toNat) := ⟨_, rfl⟩
                replace H : (if ([] : List Int).length + y158.length < 140737488355328 then ((some (([] : List Int) ++ y158 : List Int)).bind fun y163 => (if a5 > 230 then (some (wrap64 (a5), a0, (-1), (wrap64 (a3)), a1, x153005_6, y163)) else (some ((wrap64 (1 + (wrap64 (Int.tmod a5 8)))), a0, (wrap64 (a2)), (wrap64 (a3)), a1, x153005_6, y163)))) else (none)) = some (r1, r2, r3, r4, r5, r6, r7) := by first | (rw [hy158]; with_reducible exact H) | (have H2_ := (Option.bind_some _ _).symm.trans H; rw [hy158]; with_reducible exact H2_) | (have H2_ := (Option.bind_some _ _).symm.trans H; with_reducible exact H2_) | with_reducible exact H | (rw [hy158]; exact H) | exact H
                have Ny158 := Aside0.mk hy158
                clear hy158
                by_cases c34 : ([] : List Int).length + y158.length < 140737488355328
                · rw [if_pos c34] at H
                  have LMc34 := Aside0.mk c34
                  clear c34
                  obtain ⟨y163, hy163⟩ : ∃ y_ : List Int, y_ = (([] : List Int) ++ y158) := ⟨_, rfl⟩
                  replace H : (if a5 > 230 then (some (wrap64 (a5), a0, (-1), (wrap64 (a3)), a1, x153005_6, y163)) else (some ((wrap64 (1 + (wrap64 (Int.tmod a5 8)))), a0, (wrap64 (a2)), (wrap64 (a3)), a1, x153005_6, y163))) = some (r1, r2, r3, r4, r5, r6, r7) := by first | (rw [hy163]; with_reducible exact H) | (have H2_ := (Option.bind_some _ _).symm.trans H; rw [hy163]; with_reducible exact H2_) | (have H2_ := (Option.bind_some _ _).symm.trans H; with_reducible exact H2_) | with_reducible exact H | (rw [hy163]; exact H) | exact H
                  have Ny163 := Aside0.mk hy163
                  clear hy163
                  by_cases c35 : a5 > 230
                  · rw [if_pos c35] at H
                    have c35b0 : decide (230 < a5) = true := decide_eq_true c35
                    clear c35
                    simp only [Option.some.injEq, Prod.mk.injEq] at H
                    obtain ⟨rfl, rfl, rfl, rfl, rfl, rfl, rfl⟩ := H
                    try go_wp2
                    have n0_ := Aside0.mk (Kd.V_drew HO_4.out)
                    have n1_ := Aside0.mk (Kd.R_drew HO_153005.out)
                    have n2_ := Aside0.mk (blk_drew BK151.out)
                    have n3_ := Aside0.mk (blk_drew BK152.out)
                    have n4_ := Aside0.mk (below_drew1 HB.out)
                    clear HO_4 HO_153005 BK151 BK152 HB
                    have HO_4 := n0_
                    have HO_153005 := n1_
                    have BK151 := n2_
                    have BK152 := n3_
                    have HB := n4_
                    clear n0_ n1_ n2_ n3_ n4_
                    have q37 : ((ji31) : Int) ≤ ((l4.length : Int) : Int) := of_decide_eq_true (by first | (with_reducible assumption) | assumption)
                    obtain ⟨i037, hi037, _, hsz37, _⟩ := info_parts info5
                    have hroom37 : l4.length ≤ c4 := (Kd.V_reads' HO_4.out).2.1
                    have hC37 : Kd.F (Kd.int .u8) _ _ A4 l4.length l4 := (Kd.V_at (base := w.heap.size) HO_4.out).2.2
                    have hcut37 := cut_to (P := Try.prog) 22 5 .i64 Try.underlying22 hi037 A4 l4.length c4 (ji31) (of_decide_eq_true (by first | (with_reducible assumption) | assumption)) q37 hroom37
                    have hr37 := Kd.F_take (m := ((ji31) : Int).toNat) hC37 (by omega)
                    have hy37 : y158.length = ((ji31) : Int).toNat := (by rw [Ny158.out, List.length_take]; omega)
                    rw [← Ny158.out] at hr37
                    rw [← hy37] at hcut37
                    have HO162 := Aside0.mk (show Kd.V (Kd.int .u8) 5 _ w.heap.size _ (.slice A4 y158.length c4) y158 from Kd.V_mk (by omega) hr37)
                    have HC162 := Aside0.mk (show y158.length ≤ c4 from by omega)
                    clear hr37 hC37 hroom37 hi037 hsz37
                    have KY37 := Aside0.mk hy37
                    clear hy37
                    replace q37 := eq_true q37
                    refine start_ (n := 10) (S := fun w' => w'.cell? ⟨gb152, 0, none⟩ = some (.int .i64 (wrap64 (1 + (wrap64 (Int.tmod a5 8))))) ∧ w'.cell? ⟨gb152, 1, none⟩ = some (.int .u64 a0) ∧ w'.cell? ⟨gb152, 2, none⟩ = some (.int .i64 (wrap64 (a2))) ∧ w'.cell? ⟨gb152, 3, none⟩ = some (.int .i64 (wrap64 (a3))) ∧ w'.cell? ⟨gb152, 4, none⟩ = some (.int .u32 a1) ∧ w'.cell? ⟨gb152, 5, none⟩ = some (u153005) ∧ w'.cell? ⟨gb152, 6, none⟩ = some (.slice none 0 0)) (ds := [9]) #[false, false, false, false, false, false, false, false, false, false] (by kernel_rfl) rfl rfl ⟨(blk_cell BK152.out 0).trans rfl, (blk_cell BK152.out 1).trans rfl, (blk_cell BK152.out 2).trans rfl, (blk_cell BK152.out 3).trans rfl, (blk_cell BK152.out 4).trans rfl, (blk_cell BK152.out 5).trans rfl, (blk_cell BK152.out 6).trans rfl⟩ (fun hHeld => ?_); refine with_tabW scullerlaw13_Gram.tab8 scullerlaw13_Gram.bits8 (fun HT_ HW_ => ?_)
                    generalize wc.drew = w36 at HO_4 HO_153005 BK151 BK152 HB HO162 hHeld ⊢
                    refine pure_ (i := 0) (N := some 67) (v := ?_) (a' := ?_) #[true, false, false, false, false, false, false, false, false, false] rfl rfl (any_of HT_.out (by kernel_rfl)) (fun _ _ _ h => h) (Or.inl ⟨by rfl, ?_⟩) ?_ ?_; rotate_left; (intro w'; go_simp; with_reducible rfl); rotate_left; (simp only [Act.put, List.setIfInBounds_toArray, List.set_cons_zero, List.set_cons_succ, i64_w, i32_w]; rfl)
                    refine pure_ (i := 2) (N := some 69) (v := ?_) (a' := ?_) #[true, false, true, false, false, false, false, false, false, false] rfl rfl (any_of HT_.out (by kernel_rfl)) (fun _ _ _ h => h) (Or.inl ⟨by rfl, ?_⟩) ?_ ?_; rotate_left; (intro w'; go_simp; with_reducible rfl); rotate_left; (simp only [Act.put, List.setIfInBounds_toArray, List.set_cons_zero, List.set_cons_succ, i64_w, i32_w]; rfl)
                    refine pure_ (i := 3) (N := some 70) (v := ?_) (a' := ?_) #[true, false, true, true, false, false, false, false, false, false] rfl rfl (any_of HT_.out (by kernel_rfl)) (fun _ _ _ h => h) (Or.inl ⟨by rfl, ?_⟩) ?_ ?_; rotate_left; (intro w'; go_simp; with_reducible rfl); rotate_left; (simp only [Act.put, List.setIfInBounds_toArray, List.set_cons_zero, List.set_cons_succ, i64_w, i32_w]; rfl)
                    refine pure_ (i := 4) (N := some 71) (v := ?_) (a' := ?_) #[true, false, true, true, true, false, false, false, false, false] rfl rfl (any_of HT_.out (by kernel_rfl)) (fun _ _ _ h => h) (Or.inl ⟨by rfl, ?_⟩) ?_ ?_; rotate_left; (intro w'; go_simp; with_reducible rfl); rotate_left; (simp only [Act.put, List.setIfInBounds_toArray, List.set_cons_zero, List.set_cons_succ, i64_w, i32_w]; rfl)
                    refine pure_ (i := 5) (N := some 72) (v := ?_) (a' := ?_) #[true, false, true, true, true, true, false, false, false, false] rfl rfl (any_of HT_.out (by kernel_rfl)) (fun _ _ _ h => h) (Or.inl ⟨by rfl, ?_⟩) ?_ ?_; rotate_left; (intro w'; go_simp; with_reducible rfl); rotate_left; (simp only [Act.put, List.setIfInBounds_toArray, List.set_cons_zero, List.set_cons_succ, i64_w, i32_w]; rfl)
                    refine pure_ (i := 6) (N := some 73) (v := ?_) (a' := ?_) #[true, false, true, true, true, true, true, false, false, false] rfl rfl (any_of HT_.out (by kernel_rfl)) (fun _ _ _ h => h) (Or.inl ⟨by rfl, ?_⟩) ?_ ?_; rotate_left; (intro w'; go_simp; with_reducible rfl); rotate_left; (simp only [Act.put, List.setIfInBounds_toArray, List.set_cons_zero, List.set_cons_succ, i64_w, i32_w]; rfl)
                    refine take_ (i := 1) (N := some 68) (v := ?_) (a' := ?_) #[true, true, true, true, true, true, true, false, false, false] rfl rfl (take_ofW HT_.out HW_.out (by kernel_rfl)) (fun _ _ _ h => h) (Or.inl ⟨by rfl, ?_⟩) hHeld ?_ ?_; rotate_left; (rintro w' ⟨s0, s1, s2, s3, s4, s5, s6⟩; go_simp; with_reducible rfl); rotate_left; (simp only [Act.put, List.setIfInBounds_toArray, List.set_cons_zero, List.set_cons_succ, i64_w, i32_w]; rfl)
                    refine one_ (i := 7) (N := some 74) #[true, true, true, true, true, true, true, true, false, false] rfl rfl (one_of HT_.out (by kernel_rfl)) (by decide) (fun K hK => ?_)
                    refine Kd.R_append_rows_step (Kd.int .u8) (w0 := w) w.heap.size (by rfl) (.tmp 68) (.tmp 73) 22 5 (.int .u8 0) 1 rfl Try.underlying22 info5 rfl (by decide) (by omega) (.slice none 0 0) ([] : List Int) y158 _ _ _ (fun k_ => (w.heap.size ≤ k_)) (fun _ => False) rfl rfl ?aO ?aR (fun _ _ h => h) (fun _ h => h.elim) ?aF ?aB ?aS ?aL ?_
                    (case aR => repeat (first | exact (Kd.V_reads' HO162.out).2.2 | (with_reducible refine Kd.C_alloc ?_ _) | (with_reducible refine Kd.C_drewN ?_ _) | (with_reducible refine Kd.C_drew ?_)))
                    (case aB => exact (by repeat (first | (with_reducible first | exact HB.out | apply below_alloc | apply pw_below_drewN | apply below_drew1 | refine below_set ?_ GE151.out | refine below_set ?_ GE152.out) | exact HB.out)))
                    (case aF => exact (fun k_ hk => (Nat.le_trans (below_size (by repeat (first | (with_reducible first | exact HB.out | apply below_alloc | apply pw_below_drewN | apply below_drew1 | refine below_set ?_ GE151.out | refine below_set ?_ GE152.out) | exact HB.out))) hk)))
                    (case aO => exact ((Kd.R_nil _ _ _ _ (fun k_ => (w.heap.size ≤ k_)))))
                    (case aS => exact (below_size (by repeat (first | (with_reducible first | exact HB.out | apply below_alloc | apply pw_below_drewN | apply below_drew1 | refine below_set ?_ GE151.out | refine below_set ?_ GE152.out) | exact HB.out))))
                    (case aL => have := LMc34.out; omega)
                    intro v164 w38 ho hb hg hat
                    rw [← Ny163.out] at ho
                    have n0_ := Aside0.mk (Kd.V_afterv (Kd.V_apart_nil (by (with_reducible repeat (first | apply Kd.V_alloc | apply Kd.V_drewN | apply Kd.V_drew)); exact HO_4.out)) hg hat)
                    have n1_ := Aside0.mk (Kd.R_grown (Far.Ra HO_153005.out) hg (fun _ _ => by simp [Value.ownBlock]))
                    have n2_ := Aside0.mk (blk_grown (g := gb151) (o := .cells #[.int .i64 0, .int .u64 0, .int .i64 0, .int .i64 0, .int .u32 0, .slice none 0 0, .slice none 0 0] 56 (0, 0)) (Far.Ba BK151.out) hg (by simp [Value.ownBlock]))
                    have n3_ := Aside0.mk (blk_grown (g := gb152) (o := .cells #[.int .i64 (wrap64 (1 + (wrap64 (Int.tmod a5 8)))), .int .u64 a0, .int .i64 (wrap64 (a2)), .int .i64 (wrap64 (a3)), .int .u32 a1, u153005, .slice none 0 0] 56 (0, 0)) (Far.Ba BK152.out) hg (by simp [Value.ownBlock]))
                    have n4_ := Aside0.mk (Kd.V_afterv (Kd.V_apart_nil (by (with_reducible repeat (first | apply Kd.V_alloc | apply Kd.V_drewN | apply Kd.V_drew)); exact HO162.out)) hg hat)
                    have n5_ := Aside0.mk (hb)
                    have n6_ := Aside0.mk (ho)
                    clear HO_4 HO_153005 BK151 BK152 HO162 HB
                    have HO_4 := n0_
                    have HO_153005 := n1_
                    have BK151 := n2_
                    have BK152 := n3_
                    have HO162 := n4_
                    have HB := n5_
                    have HO165 := n6_
                    clear n0_ n1_ n2_ n3_ n4_ n5_ n6_; clear ho hb hg hat
                    obtain ⟨Ao39, co39, eo39⟩ := Kd.R_slice HO165.out
                    (first | subst eo39 | (injection eo39 with f1_ f2_ f3_; have f4_ := f1_.symm; have f5_ := f3_.symm; clear f1_ f2_ f3_; subst f4_; subst f5_))
                    (try have c33b1kco39 : ((ji31) ≤ (co39 : Int)) = True := eq_true (by have h_ := (Kd.R_reads' HO165.out).2.1; have q_ := of_decide_eq_true c33b1; omega))
                    refine hK.out _ _ ⟨(blk_cell BK152.out 0).trans rfl, (blk_cell BK152.out 1).trans rfl, (blk_cell BK152.out 2).trans rfl, (blk_cell BK152.out 3).trans rfl, (blk_cell BK152.out 4).trans rfl, (blk_cell BK152.out 5).trans rfl, (blk_cell BK152.out 6).trans rfl⟩ (fun hHeld => ?_)
                    clear hK K
                    refine norm_ (a' := ?_) ?_ ?_
                    rotate_left
                    · show Act.put _ (some 74) _ = _
                      simp only [Act.put, List.setIfInBounds_toArray, List.set_cons_zero, List.set_cons_succ, i64_w, i32_w]
                      rfl
                    refine pure_ (i := 8) (N := some 75) (v := ?_) (a' := ?_) #[true, true, true, true, true, true, true, true, true, false] rfl rfl (any_of HT_.out (by kernel_rfl)) (fun _ _ _ h => h) (Or.inl ⟨by rfl, ?_⟩) ?_ ?_; rotate_left; (intro w'; go_simp; with_reducible rfl); rotate_left; (simp only [Act.put, List.setIfInBounds_toArray, List.set_cons_zero, List.set_cons_succ, i64_w, i32_w]; rfl)
                    refine last_ (i := 9) (N := none) #[true, true, true, true, true, true, true, true, true, true] rfl rfl (one_of HT_.out (by kernel_rfl)) (by decide) (fun K hK => ?_)
                    have hs40 : w38.cell? ⟨gb152, 6, none⟩ = some (.slice none 0 0) := (blk_cell BK152.out 6).trans rfl
                    have hfs40 := blk_frozen BK152.out 6
                    have hns40_0 := NB151_152.out
                    have hms40_0 := NB152_151.out
                    refine skip_ (w1 := ?_) (by rfl) rfl ?_ ?_
                    rotate_left
                    · go_simp
                      rfl
                    refine hK.out _ _ ?_
                    clear hK K
                    refine done_ (done_of HT_.out (by kernel_rfl)) ?_
                    have hnb41 := NB152_151.out
                    have hnc41 := NB151_152.out
                    have hcz42_0 : w38.cell? ⟨gb152, 0, none⟩ = some (.int .i64 (wrap64 (1 + (wrap64 (Int.tmod a5 8))))) := (blk_cell BK152.out 0).trans rfl
                    have hcz42_1 : w38.cell? ⟨gb152, 1, none⟩ = some (.int .u64 a0) := (blk_cell BK152.out 1).trans rfl
                    have hcz42_2 : w38.cell? ⟨gb152, 2, none⟩ = some (.int .i64 (wrap64 (a2))) := (blk_cell BK152.out 2).trans rfl
                    have hcz42_3 : w38.cell? ⟨gb152, 3, none⟩ = some (.int .i64 (wrap64 (a3))) := (blk_cell BK152.out 3).trans rfl
                    have hcz42_4 : w38.cell? ⟨gb152, 4, none⟩ = some (.int .u32 a1) := (blk_cell BK152.out 4).trans rfl
                    have hcz42_5 : w38.cell? ⟨gb152, 5, none⟩ = some (u153005) := (blk_cell BK152.out 5).trans rfl
                    have hcz42_6 : w38.cell? ⟨gb152, 6, none⟩ = some (.slice none 0 0) := (blk_cell BK152.out 6).trans rfl
                    have hfz42_0 := blk_frozen BK152.out 0
                    have hfz42_1 := blk_frozen BK152.out 1
                    have hfz42_2 := blk_frozen BK152.out 2
                    have hfz42_3 := blk_frozen BK152.out 3
                    have hfz42_4 := blk_frozen BK152.out 4
                    have hfz42_5 := blk_frozen BK152.out 5
                    have hfz42_6 := blk_frozen BK152.out 6
                    have hcz43_0 : w38.cell? ⟨gb151, 0, none⟩ = some (.int .i64 0) := (blk_cell BK151.out 0).trans rfl
                    have hcz43_1 : w38.cell? ⟨gb151, 1, none⟩ = some (.int .u64 0) := (blk_cell BK151.out 1).trans rfl
                    have hcz43_2 : w38.cell? ⟨gb151, 2, none⟩ = some (.int .i64 0) := (blk_cell BK151.out 2).trans rfl
                    have hcz43_3 : w38.cell? ⟨gb151, 3, none⟩ = some (.int .i64 0) := (blk_cell BK151.out 3).trans rfl
                    have hcz43_4 : w38.cell? ⟨gb151, 4, none⟩ = some (.int .u32 0) := (blk_cell BK151.out 4).trans rfl
                    have hcz43_5 : w38.cell? ⟨gb151, 5, none⟩ = some (.slice none 0 0) := (blk_cell BK151.out 5).trans rfl
                    have hcz43_6 : w38.cell? ⟨gb151, 6, none⟩ = some (.slice none 0 0) := (blk_cell BK151.out 6).trans rfl
                    have hfz43_0 := blk_frozen BK151.out 0
                    have hfz43_1 := blk_frozen BK151.out 1
                    have hfz43_2 := blk_frozen BK151.out 2
                    have hfz43_3 := blk_frozen BK151.out 3
                    have hfz43_4 := blk_frozen BK151.out 4
                    have hfz43_5 := blk_frozen BK151.out 5
                    have hfz43_6 := blk_frozen BK151.out 6
                    obtain ⟨Ao44, co44, eo44⟩ := Kd.R_slice HO_153005.out
                    subst eo44
                    (try have c33b1kco44 : ((ji31) ≤ (co44 : Int)) = True := eq_true (by have h_ := (Kd.R_reads' HO_153005.out).2.1; have q_ := of_decide_eq_true c33b1; omega))
                    try go_wp2
                    refine bodyPost_ret (results_cell_row rfl _ _ gb151 56 #[.int .i64 (wrap64 (a5)), .int .u64 a0, .int .i64 (-1), .int .i64 (wrap64 (a3)), .int .u32 a1, .slice Ao44 x153005_6.length co44, .slice Ao39 y163.length co39] (0, 0) _ rfl (by (with_reducible repeat (first | refine blk_drewN ?_ _ | refine blk_drew ?_ | refine blk_alloc ?_ _)); refine blk_put (cs := #[.int .i64 (wrap64 (a5)), .int .u64 a0, .int .i64 (-1), .int .i64 (wrap64 (a3)), .int .u32 a1, .slice Ao44 x153005_6.length co44, .slice none 0 0]) ?_ 6 _ rfl; (with_reducible repeat (first | refine blk_drewN ?_ _ | refine blk_drew ?_ | refine blk_alloc ?_ _)); refine blk_put (cs := #[.int .i64 (wrap64 (a5)), .int .u64 a0, .int .i64 (-1), .int .i64 (wrap64 (a3)), .int .u32 a1, .slice none 0 0, .slice none 0 0]) ?_ 5 _ rfl; (with_reducible repeat (first | refine blk_drewN ?_ _ | refine blk_drew ?_ | refine blk_alloc ?_ _)); refine blk_put (cs := #[.int .i64 (wrap64 (a5)), .int .u64 a0, .int .i64 (-1), .int .i64 (wrap64 (a3)), .int .u32 0, .slice none 0 0, .slice none 0 0]) ?_ 4 _ rfl; (with_reducible repeat (first | refine blk_drewN ?_ _ | refine blk_drew ?_ | refine blk_alloc ?_ _)); refine blk_put (cs := #[.int .i64 (wrap64 (a5)), .int .u64 a0, .int .i64 (-1), .int .i64 0, .int .u32 0, .slice none 0 0, .slice none 0 0]) ?_ 3 _ rfl; (with_reducible repeat (first | refine blk_drewN ?_ _ | refine blk_drew ?_ | refine blk_alloc ?_ _)); refine blk_put (cs := #[.int .i64 (wrap64 (a5)), .int .u64 a0, .int .i64 0, .int .i64 0, .int .u32 0, .slice none 0 0, .slice none 0 0]) ?_ 2 _ rfl; (with_reducible repeat (first | refine blk_drewN ?_ _ | refine blk_drew ?_ | refine blk_alloc ?_ _)); refine blk_put (cs := #[.int .i64 (wrap64 (a5)), .int .u64 0, .int .i64 0, .int .i64 0, .int .u32 0, .slice none 0 0, .slice none 0 0]) ?_ 1 _ rfl; (with_reducible repeat (first | refine blk_drewN ?_ _ | refine blk_drew ?_ | refine blk_alloc ?_ _)); refine blk_put (cs := #[.int .i64 0, .int .u64 0, .int .i64 0, .int .i64 0, .int .u32 0, .slice none 0 0, .slice none 0 0]) ?_ 0 _ rfl; (with_reducible repeat (first | refine blk_drewN ?_ _ | refine blk_drew ?_ | refine blk_alloc ?_ _)); refine blk_far ?_ NB151_152.out _; (with_reducible repeat (first | refine blk_drewN ?_ _ | refine blk_drew ?_ | refine blk_alloc ?_ _)); refine blk_far ?_ NB151_152.out _; (with_reducible repeat (first | refine blk_drewN ?_ _ | refine blk_drew ?_ | refine blk_alloc ?_ _)); refine blk_far ?_ NB151_152.out _; (with_reducible repeat (first | refine blk_drewN ?_ _ | refine blk_drew ?_ | refine blk_alloc ?_ _)); exact BK151.out) Try.underlying56 rfl (by kernel_rfl)) rfl ?_
                    exact ⟨_, _, by first | rfl | (simp [errW_none, errW_some] <;> rfl) | (simp only [← hji31]; first | rfl | (simp [errW_none, errW_some] <;> rfl)) | (simp [*, errW_none, errW_some] <;> rfl), by (with_reducible repeat (first | apply Kd.R_alloc | apply Kd.R_drewN | apply Kd.R_drew)); exact Kd.R_mono (Kd.R_far (p := ⟨gb151, 6, none⟩) (Kd.R_far (p := ⟨gb151, 5, none⟩) (Kd.R_far (p := ⟨gb151, 4, none⟩) (Kd.R_far (p := ⟨gb151, 3, none⟩) (Kd.R_far (p := ⟨gb151, 2, none⟩) (Kd.R_far (p := ⟨gb151, 1, none⟩) (Kd.R_far (p := ⟨gb151, 0, none⟩) (Kd.R_far (p := ⟨gb152, 2, none⟩) (Kd.R_far (p := ⟨gb152, 0, none⟩) (Kd.R_far (p := ⟨gb152, 6, none⟩) (Kd.R_types (Kd.R_types HO_153005.out BK152.out (by decide)) BK151.out (by decide)) (fun _ hk => hk.1.2) (.slice Ao39 y163.length co39)) (fun _ hk => hk.1.2) (.int .i64 (wrap64 (a5)))) (fun _ hk => hk.1.2) (.int .i64 (-1))) (fun _ hk => hk.2) (.int .i64 (wrap64 (a5)))) (fun _ hk => hk.2) (.int .u64 a0)) (fun _ hk => hk.2) (.int .i64 (-1))) (fun _ hk => hk.2) (.int .i64 (wrap64 (a3)))) (fun _ hk => hk.2) (.int .u32 a1)) (fun _ hk => hk.2) (.slice Ao44 x153005_6.length co44)) (fun _ hk => hk.2) (.slice Ao39 y163.length co39)) (fun _ hk => hk.1.1), by (with_reducible repeat (first | apply Kd.R_alloc | apply Kd.R_drewN | apply Kd.R_drew)); exact Kd.R_mono (Kd.R_far (p := ⟨gb151, 6, none⟩) (Kd.R_far (p := ⟨gb151, 5, none⟩) (Kd.R_far (p := ⟨gb151, 4, none⟩) (Kd.R_far (p := ⟨gb151, 3, none⟩) (Kd.R_far (p := ⟨gb151, 2, none⟩) (Kd.R_far (p := ⟨gb151, 1, none⟩) (Kd.R_far (p := ⟨gb151, 0, none⟩) (Kd.R_far (p := ⟨gb152, 2, none⟩) (Kd.R_far (p := ⟨gb152, 0, none⟩) (Kd.R_far (p := ⟨gb152, 6, none⟩) (Kd.R_types (Kd.R_types HO165.out BK152.out (by decide)) BK151.out (by decide)) (fun _ hk => hk.1.2) (.slice Ao39 y163.length co39)) (fun _ hk => hk.1.2) (.int .i64 (wrap64 (a5)))) (fun _ hk => hk.1.2) (.int .i64 (-1))) (fun _ hk => hk.2) (.int .i64 (wrap64 (a5)))) (fun _ hk => hk.2) (.int .u64 a0)) (fun _ hk => hk.2) (.int .i64 (-1))) (fun _ hk => hk.2) (.int .i64 (wrap64 (a3)))) (fun _ hk => hk.2) (.int .u32 a1)) (fun _ hk => hk.2) (.slice Ao44 x153005_6.length co44)) (fun _ hk => hk.2) (.slice Ao39 y163.length co39)) (fun _ hk => hk.1.1), by repeat (first | (with_reducible first | exact HB.out | apply below_alloc | apply pw_below_drewN | apply below_drew1 | refine below_set ?_ GE151.out | refine below_set ?_ GE152.out) | exact HB.out)⟩
                  · rw [if_neg c35] at H
                    have c35b0 : decide (230 < a5) = false := decide_eq_false c35
                    clear c35
                    simp only [Option.some.injEq, Prod.mk.injEq] at H
                    obtain ⟨rfl, rfl, rfl, rfl, rfl, rfl, rfl⟩ := H
                    try go_wp2
                    have n0_ := Aside0.mk (Kd.V_drew HO_4.out)
                    have n1_ := Aside0.mk (Kd.R_drew HO_153005.out)
                    have n2_ := Aside0.mk (blk_drew BK151.out)
                    have n3_ := Aside0.mk (blk_drew BK152.out)
                    have n4_ := Aside0.mk (below_drew1 HB.out)
                    clear HO_4 HO_153005 BK151 BK152 HB
                    have HO_4 := n0_
                    have HO_153005 := n1_
                    have BK151 := n2_
                    have BK152 := n3_
                    have HB := n4_
                    clear n0_ n1_ n2_ n3_ n4_
                    have q46 : ((ji31) : Int) ≤ ((l4.length : Int) : Int) := of_decide_eq_true (by first | (with_reducible assumption) | assumption)
                    obtain ⟨i046, hi046, _, hsz46, _⟩ := info_parts info5
                    have hroom46 : l4.length ≤ c4 := (Kd.V_reads' HO_4.out).2.1
                    have hC46 : Kd.F (Kd.int .u8) _ _ A4 l4.length l4 := (Kd.V_at (base := w.heap.size) HO_4.out).2.2
                    have hcut46 := cut_to (P := Try.prog) 22 5 .i64 Try.underlying22 hi046 A4 l4.length c4 (ji31) (of_decide_eq_true (by first | (with_reducible assumption) | assumption)) q46 hroom46
                    have hr46 := Kd.F_take (m := ((ji31) : Int).toNat) hC46 (by omega)
                    have hy46 : y158.length = ((ji31) : Int).toNat := (by rw [Ny158.out, List.length_take]; omega)
                    rw [← Ny158.out] at hr46
                    rw [← hy46] at hcut46
                    have HO162 := Aside0.mk (show Kd.V (Kd.int .u8) 5 _ w.heap.size _ (.slice A4 y158.length c4) y158 from Kd.V_mk (by omega) hr46)
                    have HC162 := Aside0.mk (show y158.length ≤ c4 from by omega)
                    clear hr46 hC46 hroom46 hi046 hsz46
                    have KY46 := Aside0.mk hy46
                    clear hy46
                    replace q46 := eq_true q46
                    refine start_ (n := 10) (S := fun w' => w'.cell? ⟨gb152, 0, none⟩ = some (.int .i64 (wrap64 (1 + (wrap64 (Int.tmod a5 8))))) ∧ w'.cell? ⟨gb152, 1, none⟩ = some (.int .u64 a0) ∧ w'.cell? ⟨gb152, 2, none⟩ = some (.int .i64 (wrap64 (a2))) ∧ w'.cell? ⟨gb152, 3, none⟩ = some (.int .i64 (wrap64 (a3))) ∧ w'.cell? ⟨gb152, 4, none⟩ = some (.int .u32 a1) ∧ w'.cell? ⟨gb152, 5, none⟩ = some (u153005) ∧ w'.cell? ⟨gb152, 6, none⟩ = some (.slice none 0 0)) (ds := [9]) #[false, false, false, false, false, false, false, false, false, false] (by kernel_rfl) rfl rfl ⟨(blk_cell BK152.out 0).trans rfl, (blk_cell BK152.out 1).trans rfl, (blk_cell BK152.out 2).trans rfl, (blk_cell BK152.out 3).trans rfl, (blk_cell BK152.out 4).trans rfl, (blk_cell BK152.out 5).trans rfl, (blk_cell BK152.out 6).trans rfl⟩ (fun hHeld => ?_); refine with_tabW scullerlaw13_Gram.tab8 scullerlaw13_Gram.bits8 (fun HT_ HW_ => ?_)
                    generalize wc.drew = w45 at HO_4 HO_153005 BK151 BK152 HB HO162 hHeld ⊢
                    refine pure_ (i := 0) (N := some 67) (v := ?_) (a' := ?_) #[true, false, false, false, false, false, false, false, false, false] rfl rfl (any_of HT_.out (by kernel_rfl)) (fun _ _ _ h => h) (Or.inl ⟨by rfl, ?_⟩) ?_ ?_; rotate_left; (intro w'; go_simp; with_reducible rfl); rotate_left; (simp only [Act.put, List.setIfInBounds_toArray, List.set_cons_zero, List.set_cons_succ, i64_w, i32_w]; rfl)
                    refine pure_ (i := 2) (N := some 69) (v := ?_) (a' := ?_) #[true, false, true, false, false, false, false, false, false, false] rfl rfl (any_of HT_.out (by kernel_rfl)) (fun _ _ _ h => h) (Or.inl ⟨by rfl, ?_⟩) ?_ ?_; rotate_left; (intro w'; go_simp; with_reducible rfl); rotate_left; (simp only [Act.put, List.setIfInBounds_toArray, List.set_cons_zero, List.set_cons_succ, i64_w, i32_w]; rfl)
                    refine pure_ (i := 3) (N := some 70) (v := ?_) (a' := ?_) #[true, false, true, true, false, false, false, false, false, false] rfl rfl (any_of HT_.out (by kernel_rfl)) (fun _ _ _ h => h) (Or.inl ⟨by rfl, ?_⟩) ?_ ?_; rotate_left; (intro w'; go_simp; with_reducible rfl); rotate_left; (simp only [Act.put, List.setIfInBounds_toArray, List.set_cons_zero, List.set_cons_succ, i64_w, i32_w]; rfl)
                    refine pure_ (i := 4) (N := some 71) (v := ?_) (a' := ?_) #[true, false, true, true, true, false, false, false, false, false] rfl rfl (any_of HT_.out (by kernel_rfl)) (fun _ _ _ h => h) (Or.inl ⟨by rfl, ?_⟩) ?_ ?_; rotate_left; (intro w'; go_simp; with_reducible rfl); rotate_left; (simp only [Act.put, List.setIfInBounds_toArray, List.set_cons_zero, List.set_cons_succ, i64_w, i32_w]; rfl)
                    refine pure_ (i := 5) (N := some 72) (v := ?_) (a' := ?_) #[true, false, true, true, true, true, false, false, false, false] rfl rfl (any_of HT_.out (by kernel_rfl)) (fun _ _ _ h => h) (Or.inl ⟨by rfl, ?_⟩) ?_ ?_; rotate_left; (intro w'; go_simp; with_reducible rfl); rotate_left; (simp only [Act.put, List.setIfInBounds_toArray, List.set_cons_zero, List.set_cons_succ, i64_w, i32_w]; rfl)
                    refine pure_ (i := 6) (N := some 73) (v := ?_) (a' := ?_) #[true, false, true, true, true, true, true, false, false, false] rfl rfl (any_of HT_.out (by kernel_rfl)) (fun _ _ _ h => h) (Or.inl ⟨by rfl, ?_⟩) ?_ ?_; rotate_left; (intro w'; go_simp; with_reducible rfl); rotate_left; (simp only [Act.put, List.setIfInBounds_toArray, List.set_cons_zero, List.set_cons_succ, i64_w, i32_w]; rfl)
                    refine take_ (i := 1) (N := some 68) (v := ?_) (a' := ?_) #[true, true, true, true, true, true, true, false, false, false] rfl rfl (take_ofW HT_.out HW_.out (by kernel_rfl)) (fun _ _ _ h => h) (Or.inl ⟨by rfl, ?_⟩) hHeld ?_ ?_; rotate_left; (rintro w' ⟨s0, s1, s2, s3, s4, s5, s6⟩; go_simp; with_reducible rfl); rotate_left; (simp only [Act.put, List.setIfInBounds_toArray, List.set_cons_zero, List.set_cons_succ, i64_w, i32_w]; rfl)
                    refine one_ (i := 7) (N := some 74) #[true, true, true, true, true, true, true, true, false, false] rfl rfl (one_of HT_.out (by kernel_rfl)) (by decide) (fun K hK => ?_)
                    refine Kd.R_append_rows_step (Kd.int .u8) (w0 := w) w.heap.size (by rfl) (.tmp 68) (.tmp 73) 22 5 (.int .u8 0) 1 rfl Try.underlying22 info5 rfl (by decide) (by omega) (.slice none 0 0) ([] : List Int) y158 _ _ _ (fun k_ => (w.heap.size ≤ k_)) (fun _ => False) rfl rfl ?aO ?aR (fun _ _ h => h) (fun _ h => h.elim) ?aF ?aB ?aS ?aL ?_
                    (case aR => repeat (first | exact (Kd.V_reads' HO162.out).2.2 | (with_reducible refine Kd.C_alloc ?_ _) | (with_reducible refine Kd.C_drewN ?_ _) | (with_reducible refine Kd.C_drew ?_)))
                    (case aB => exact (by repeat (first | (with_reducible first | exact HB.out | apply below_alloc | apply pw_below_drewN | apply below_drew1 | refine below_set ?_ GE151.out | refine below_set ?_ GE152.out) | exact HB.out)))
                    (case aF => exact (fun k_ hk => (Nat.le_trans (below_size (by repeat (first | (with_reducible first | exact HB.out | apply below_alloc | apply pw_below_drewN | apply below_drew1 | refine below_set ?_ GE151.out | refine below_set ?_ GE152.out) | exact HB.out))) hk)))
                    (case aO => exact ((Kd.R_nil _ _ _ _ (fun k_ => (w.heap.size ≤ k_)))))
                    (case aS => exact (below_size (by repeat (first | (with_reducible first | exact HB.out | apply below_alloc | apply pw_below_drewN | apply below_drew1 | refine below_set ?_ GE151.out | refine below_set ?_ GE152.out) | exact HB.out))))
                    (case aL => have := LMc34.out; omega)
                    intro v164 w47 ho hb hg hat
                    rw [← Ny163.out] at ho
                    have n0_ := Aside0.mk (Kd.V_afterv (Kd.V_apart_nil (by (with_reducible repeat (first | apply Kd.V_alloc | apply Kd.V_drewN | apply Kd.V_drew)); exact HO_4.out)) hg hat)
                    have n1_ := Aside0.mk (Kd.R_grown (Far.Ra HO_153005.out) hg (fun _ _ => by simp [Value.ownBlock]))
                    have n2_ := Aside0.mk (blk_grown (g := gb151) (o := .cells #[.int .i64 0, .int .u64 0, .int .i64 0, .int .i64 0, .int .u32 0, .slice none 0 0, .slice none 0 0] 56 (0, 0)) (Far.Ba BK151.out) hg (by simp [Value.ownBlock]))
                    have n3_ := Aside0.mk (blk_grown (g := gb152) (o := .cells #[.int .i64 (wrap64 (1 + (wrap64 (Int.tmod a5 8)))), .int .u64 a0, .int .i64 (wrap64 (a2)), .int .i64 (wrap64 (a3)), .int .u32 a1, u153005, .slice none 0 0] 56 (0, 0)) (Far.Ba BK152.out) hg (by simp [Value.ownBlock]))
                    have n4_ := Aside0.mk (Kd.V_afterv (Kd.V_apart_nil (by (with_reducible repeat (first | apply Kd.V_alloc | apply Kd.V_drewN | apply Kd.V_drew)); exact HO162.out)) hg hat)
                    have n5_ := Aside0.mk (hb)
                    have n6_ := Aside0.mk (ho)
                    clear HO_4 HO_153005 BK151 BK152 HO162 HB
                    have HO_4 := n0_
                    have HO_153005 := n1_
                    have BK151 := n2_
                    have BK152 := n3_
                    have HO162 := n4_
                    have HB := n5_
                    have HO165 := n6_
                    clear n0_ n1_ n2_ n3_ n4_ n5_ n6_; clear ho hb hg hat
                    obtain ⟨Ao48, co48, eo48⟩ := Kd.R_slice HO165.out
                    (first | subst eo48 | (injection eo48 with f1_ f2_ f3_; have f4_ := f1_.symm; have f5_ := f3_.symm; clear f1_ f2_ f3_; subst f4_; subst f5_))
                    (try have c33b1kco48 : ((ji31) ≤ (co48 : Int)) = True := eq_true (by have h_ := (Kd.R_reads' HO165.out).2.1; have q_ := of_decide_eq_true c33b1; omega))
                    refine hK.out _ _ ⟨(blk_cell BK152.out 0).trans rfl, (blk_cell BK152.out 1).trans rfl, (blk_cell BK152.out 2).trans rfl, (blk_cell BK152.out 3).trans rfl, (blk_cell BK152.out 4).trans rfl, (blk_cell BK152.out 5).trans rfl, (blk_cell BK152.out 6).trans rfl⟩ (fun hHeld => ?_)
                    clear hK K
                    refine norm_ (a' := ?_) ?_ ?_
                    rotate_left
                    · show Act.put _ (some 74) _ = _
                      simp only [Act.put, List.setIfInBounds_toArray, List.set_cons_zero, List.set_cons_succ, i64_w, i32_w]
                      rfl
                    refine pure_ (i := 8) (N := some 75) (v := ?_) (a' := ?_) #[true, true, true, true, true, true, true, true, true, false] rfl rfl (any_of HT_.out (by kernel_rfl)) (fun _ _ _ h => h) (Or.inl ⟨by rfl, ?_⟩) ?_ ?_; rotate_left; (intro w'; go_simp; with_reducible rfl); rotate_left; (simp only [Act.put, List.setIfInBounds_toArray, List.set_cons_zero, List.set_cons_succ, i64_w, i32_w]; rfl)
                    refine last_ (i := 9) (N := none) #[true, true, true, true, true, true, true, true, true, true] rfl rfl (one_of HT_.out (by kernel_rfl)) (by decide) (fun K hK => ?_)
                    have hs49 : w47.cell? ⟨gb152, 6, none⟩ = some (.slice none 0 0) := (blk_cell BK152.out 6).trans rfl
                    have hfs49 := blk_frozen BK152.out 6
                    have hns49_0 := NB151_152.out
                    have hms49_0 := NB152_151.out
                    refine skip_ (w1 := ?_) (by rfl) rfl ?_ ?_
                    rotate_left
                    · go_simp
                      rfl
                    refine hK.out _ _ ?_
                    clear hK K
                    refine done_ (done_of HT_.out (by kernel_rfl)) ?_
                    have hnb50 := NB152_151.out
                    have hnc50 := NB151_152.out
                    have hcz51_0 : w47.cell? ⟨gb152, 0, none⟩ = some (.int .i64 (wrap64 (1 + (wrap64 (Int.tmod a5 8))))) := (blk_cell BK152.out 0).trans rfl
                    have hcz51_1 : w47.cell? ⟨gb152, 1, none⟩ = some (.int .u64 a0) := (blk_cell BK152.out 1).trans rfl
                    have hcz51_2 : w47.cell? ⟨gb152, 2, none⟩ = some (.int .i64 (wrap64 (a2))) := (blk_cell BK152.out 2).trans rfl
                    have hcz51_3 : w47.cell? ⟨gb152, 3, none⟩ = some (.int .i64 (wrap64 (a3))) := (blk_cell BK152.out 3).trans rfl
                    have hcz51_4 : w47.cell? ⟨gb152, 4, none⟩ = some (.int .u32 a1) := (blk_cell BK152.out 4).trans rfl
                    have hcz51_5 : w47.cell? ⟨gb152, 5, none⟩ = some (u153005) := (blk_cell BK152.out 5).trans rfl
                    have hcz51_6 : w47.cell? ⟨gb152, 6, none⟩ = some (.slice none 0 0) := (blk_cell BK152.out 6).trans rfl
                    have hfz51_0 := blk_frozen BK152.out 0
                    have hfz51_1 := blk_frozen BK152.out 1
                    have hfz51_2 := blk_frozen BK152.out 2
                    have hfz51_3 := blk_frozen BK152.out 3
                    have hfz51_4 := blk_frozen BK152.out 4
                    have hfz51_5 := blk_frozen BK152.out 5
                    have hfz51_6 := blk_frozen BK152.out 6
                    have hcz52_0 : w47.cell? ⟨gb151, 0, none⟩ = some (.int .i64 0) := (blk_cell BK151.out 0).trans rfl
                    have hcz52_1 : w47.cell? ⟨gb151, 1, none⟩ = some (.int .u64 0) := (blk_cell BK151.out 1).trans rfl
                    have hcz52_2 : w47.cell? ⟨gb151, 2, none⟩ = some (.int .i64 0) := (blk_cell BK151.out 2).trans rfl
                    have hcz52_3 : w47.cell? ⟨gb151, 3, none⟩ = some (.int .i64 0) := (blk_cell BK151.out 3).trans rfl
                    have hcz52_4 : w47.cell? ⟨gb151, 4, none⟩ = some (.int .u32 0) := (blk_cell BK151.out 4).trans rfl
                    have hcz52_5 : w47.cell? ⟨gb151, 5, none⟩ = some (.slice none 0 0) := (blk_cell BK151.out 5).trans rfl
                    have hcz52_6 : w47.cell? ⟨gb151, 6, none⟩ = some (.slice none 0 0) := (blk_cell BK151.out 6).trans rfl
                    have hfz52_0 := blk_frozen BK151.out 0
                    have hfz52_1 := blk_frozen BK151.out 1
                    have hfz52_2 := blk_frozen BK151.out 2
                    have hfz52_3 := blk_frozen BK151.out 3
                    have hfz52_4 := blk_frozen BK151.out 4
                    have hfz52_5 := blk_frozen BK151.out 5
                    have hfz52_6 := blk_frozen BK151.out 6
                    obtain ⟨Ao53, co53, eo53⟩ := Kd.R_slice HO_153005.out
                    subst eo53
                    (try have c33b1kco53 : ((ji31) ≤ (co53 : Int)) = True := eq_true (by have h_ := (Kd.R_reads' HO_153005.out).2.1; have q_ := of_decide_eq_true c33b1; omega))
                    try go_wp2
                    refine bodyPost_ret (results_cell_row rfl _ _ gb151 56 #[.int .i64 (wrap64 (1 + (wrap64 (Int.tmod a5 8)))), .int .u64 a0, .int .i64 (wrap64 (a2)), .int .i64 (wrap64 (a3)), .int .u32 a1, .slice Ao53 x153005_6.length co53, .slice Ao48 y163.length co48] (0, 0) _ rfl (by (with_reducible repeat (first | refine blk_drewN ?_ _ | refine blk_drew ?_ | refine blk_alloc ?_ _)); refine blk_put (cs := #[.int .i64 (wrap64 (1 + (wrap64 (Int.tmod a5 8)))), .int .u64 a0, .int .i64 (wrap64 (a2)), .int .i64 (wrap64 (a3)), .int .u32 a1, .slice Ao53 x153005_6.length co53, .slice none 0 0]) ?_ 6 _ rfl; (with_reducible repeat (first | refine blk_drewN ?_ _ | refine blk_drew ?_ | refine blk_alloc ?_ _)); refine blk_put (cs := #[.int .i64 (wrap64 (1 + (wrap64 (Int.tmod a5 8)))), .int .u64 a0, .int .i64 (wrap64 (a2)), .int .i64 (wrap64 (a3)), .int .u32 a1, .slice none 0 0, .slice none 0 0]) ?_ 5 _ rfl; (with_reducible repeat (first | refine blk_drewN ?_ _ | refine blk_drew ?_ | refine blk_alloc ?_ _)); refine blk_put (cs := #[.int .i64 (wrap64 (1 + (wrap64 (Int.tmod a5 8)))), .int .u64 a0, .int .i64 (wrap64 (a2)), .int .i64 (wrap64 (a3)), .int .u32 0, .slice none 0 0, .slice none 0 0]) ?_ 4 _ rfl; (with_reducible repeat (first | refine blk_drewN ?_ _ | refine blk_drew ?_ | refine blk_alloc ?_ _)); refine blk_put (cs := #[.int .i64 (wrap64 (1 + (wrap64 (Int.tmod a5 8)))), .int .u64 a0, .int .i64 (wrap64 (a2)), .int .i64 0, .int .u32 0, .slice none 0 0, .slice none 0 0]) ?_ 3 _ rfl; (with_reducible repeat (first | refine blk_drewN ?_ _ | refine blk_drew ?_ | refine blk_alloc ?_ _)); refine blk_put (cs := #[.int .i64 (wrap64 (1 + (wrap64 (Int.tmod a5 8)))), .int .u64 a0, .int .i64 0, .int .i64 0, .int .u32 0, .slice none 0 0, .slice none 0 0]) ?_ 2 _ rfl; (with_reducible repeat (first | refine blk_drewN ?_ _ | refine blk_drew ?_ | refine blk_alloc ?_ _)); refine blk_put (cs := #[.int .i64 (wrap64 (1 + (wrap64 (Int.tmod a5 8)))), .int .u64 0, .int .i64 0, .int .i64 0, .int .u32 0, .slice none 0 0, .slice none 0 0]) ?_ 1 _ rfl; (with_reducible repeat (first | refine blk_drewN ?_ _ | refine blk_drew ?_ | refine blk_alloc ?_ _)); refine blk_put (cs := #[.int .i64 0, .int .u64 0, .int .i64 0, .int .i64 0, .int .u32 0, .slice none 0 0, .slice none 0 0]) ?_ 0 _ rfl; (with_reducible repeat (first | refine blk_drewN ?_ _ | refine blk_drew ?_ | refine blk_alloc ?_ _)); refine blk_far ?_ NB151_152.out _; (with_reducible repeat (first | refine blk_drewN ?_ _ | refine blk_drew ?_ | refine blk_alloc ?_ _)); exact BK151.out) Try.underlying56 rfl (by kernel_rfl)) rfl ?_
                    exact ⟨_, _, by first | rfl | (simp [errW_none, errW_some] <;> rfl) | (simp only [← hji31]; first | rfl | (simp [errW_none, errW_some] <;> rfl)) | (simp [*, errW_none, errW_some] <;> rfl), by (with_reducible repeat (first | apply Kd.R_alloc | apply Kd.R_drewN | apply Kd.R_drew)); exact Kd.R_mono (Kd.R_far (p := ⟨gb151, 6, none⟩) (Kd.R_far (p := ⟨gb151, 5, none⟩) (Kd.R_far (p := ⟨gb151, 4, none⟩) (Kd.R_far (p := ⟨gb151, 3, none⟩) (Kd.R_far (p := ⟨gb151, 2, none⟩) (Kd.R_far (p := ⟨gb151, 1, none⟩) (Kd.R_far (p := ⟨gb151, 0, none⟩) (Kd.R_far (p := ⟨gb152, 6, none⟩) (Kd.R_types (Kd.R_types HO_153005.out BK152.out (by decide)) BK151.out (by decide)) (fun _ hk => hk.1.2) (.slice Ao48 y163.length co48)) (fun _ hk => hk.2) (.int .i64 (wrap64 (1 + (wrap64 (Int.tmod a5 8)))))) (fun _ hk => hk.2) (.int .u64 a0)) (fun _ hk => hk.2) (.int .i64 (wrap64 (a2)))) (fun _ hk => hk.2) (.int .i64 (wrap64 (a3)))) (fun _ hk => hk.2) (.int .u32 a1)) (fun _ hk => hk.2) (.slice Ao53 x153005_6.length co53)) (fun _ hk => hk.2) (.slice Ao48 y163.length co48)) (fun _ hk => hk.1.1), by (with_reducible repeat (first | apply Kd.R_alloc | apply Kd.R_drewN | apply Kd.R_drew)); exact Kd.R_mono (Kd.R_far (p := ⟨gb151, 6, none⟩) (Kd.R_far (p := ⟨gb151, 5, none⟩) (Kd.R_far (p := ⟨gb151, 4, none⟩) (Kd.R_far (p := ⟨gb151, 3, none⟩) (Kd.R_far (p := ⟨gb151, 2, none⟩) (Kd.R_far (p := ⟨gb151, 1, none⟩) (Kd.R_far (p := ⟨gb151, 0, none⟩) (Kd.R_far (p := ⟨gb152, 6, none⟩) (Kd.R_types (Kd.R_types HO165.out BK152.out (by decide)) BK151.out (by decide)) (fun _ hk => hk.1.2) (.slice Ao48 y163.length co48)) (fun _ hk => hk.2) (.int .i64 (wrap64 (1 + (wrap64 (Int.tmod a5 8)))))) (fun _ hk => hk.2) (.int .u64 a0)) (fun _ hk => hk.2) (.int .i64 (wrap64 (a2)))) (fun _ hk => hk.2) (.int .i64 (wrap64 (a3)))) (fun _ hk => hk.2) (.int .u32 a1)) (fun _ hk => hk.2) (.slice Ao53 x153005_6.length co53)) (fun _ hk => hk.2) (.slice Ao48 y163.length co48)) (fun _ hk => hk.1.1), by repeat (first | (with_reducible first | exact HB.out | apply below_alloc | apply pw_below_drewN | apply below_drew1 | refine below_set ?_ GE151.out | refine below_set ?_ GE152.out) | exact HB.out)⟩
                · rw [if_neg c34] at H
                  exact absurd H (by simp)
              · rw [if_neg c33] at H
                exact absurd H (by simp)
            · rw [if_neg c32] at H
              exact absurd H (by simp)
          · replace c30 := Bool.eq_false_iff.mpr c30
            subst c30
            have H1 : (if a5 > 230 then (some (wrap64 (a5), a0, (-1), (wrap64 (a3)), a1, x153005_6, ([] : List Int))) else (some ((wrap64 (1 + (wrap64 (Int.tmod a5 8)))), a0, (wrap64 (a2)), (wrap64 (a3)), a1, x153005_6, ([] : List Int)))) = some (r1, r2, r3, r4, r5, r6, r7) := by rw [if_neg (show ¬ (false = true) by decide)] at H; exact H
            clear H
            have H := H1
            clear H1
            by_cases c54 : a5 > 230
            · rw [if_pos c54] at H
              have c54b0 : decide (230 < a5) = true := decide_eq_true c54
              clear c54
              simp only [Option.some.injEq, Prod.mk.injEq] at H
              obtain ⟨rfl, rfl, rfl, rfl, rfl, rfl, rfl⟩ := H
              have hnb55 := NB152_151.out
              have hnc55 := NB151_152.out
              have hcz56_0 : wc.cell? ⟨gb152, 0, none⟩ = some (.int .i64 (wrap64 (1 + (wrap64 (Int.tmod a5 8))))) := (blk_cell BK152.out 0).trans rfl
              have hcz56_1 : wc.cell? ⟨gb152, 1, none⟩ = some (.int .u64 a0) := (blk_cell BK152.out 1).trans rfl
              have hcz56_2 : wc.cell? ⟨gb152, 2, none⟩ = some (.int .i64 (wrap64 (a2))) := (blk_cell BK152.out 2).trans rfl
              have hcz56_3 : wc.cell? ⟨gb152, 3, none⟩ = some (.int .i64 (wrap64 (a3))) := (blk_cell BK152.out 3).trans rfl
              have hcz56_4 : wc.cell? ⟨gb152, 4, none⟩ = some (.int .u32 a1) := (blk_cell BK152.out 4).trans rfl
              have hcz56_5 : wc.cell? ⟨gb152, 5, none⟩ = some (u153005) := (blk_cell BK152.out 5).trans rfl
              have hcz56_6 : wc.cell? ⟨gb152, 6, none⟩ = some (.slice none 0 0) := (blk_cell BK152.out 6).trans rfl
              have hfz56_0 := blk_frozen BK152.out 0
              have hfz56_1 := blk_frozen BK152.out 1
              have hfz56_2 := blk_frozen BK152.out 2
              have hfz56_3 := blk_frozen BK152.out 3
              have hfz56_4 := blk_frozen BK152.out 4
              have hfz56_5 := blk_frozen BK152.out 5
              have hfz56_6 := blk_frozen BK152.out 6
              have hcz57_0 : wc.cell? ⟨gb151, 0, none⟩ = some (.int .i64 0) := (blk_cell BK151.out 0).trans rfl
              have hcz57_1 : wc.cell? ⟨gb151, 1, none⟩ = some (.int .u64 0) := (blk_cell BK151.out 1).trans rfl
              have hcz57_2 : wc.cell? ⟨gb151, 2, none⟩ = some (.int .i64 0) := (blk_cell BK151.out 2).trans rfl
              have hcz57_3 : wc.cell? ⟨gb151, 3, none⟩ = some (.int .i64 0) := (blk_cell BK151.out 3).trans rfl
              have hcz57_4 : wc.cell? ⟨gb151, 4, none⟩ = some (.int .u32 0) := (blk_cell BK151.out 4).trans rfl
              have hcz57_5 : wc.cell? ⟨gb151, 5, none⟩ = some (.slice none 0 0) := (blk_cell BK151.out 5).trans rfl
              have hcz57_6 : wc.cell? ⟨gb151, 6, none⟩ = some (.slice none 0 0) := (blk_cell BK151.out 6).trans rfl
              have hfz57_0 := blk_frozen BK151.out 0
              have hfz57_1 := blk_frozen BK151.out 1
              have hfz57_2 := blk_frozen BK151.out 2
              have hfz57_3 := blk_frozen BK151.out 3
              have hfz57_4 := blk_frozen BK151.out 4
              have hfz57_5 := blk_frozen BK151.out 5
              have hfz57_6 := blk_frozen BK151.out 6
              obtain ⟨Ao58, co58, eo58⟩ := Kd.R_slice HO_153005.out
              subst eo58
              go_wp2
              refine bodyPost_ret (results_cell_row rfl _ _ gb151 56 #[.int .i64 (wrap64 (a5)), .int .u64 a0, .int .i64 (-1), .int .i64 (wrap64 (a3)), .int .u32 a1, .slice Ao58 x153005_6.length co58, .slice none 0 0] (0, 0) _ rfl (by (with_reducible repeat (first | refine blk_drewN ?_ _ | refine blk_drew ?_ | refine blk_alloc ?_ _)); refine blk_put (cs := #[.int .i64 (wrap64 (a5)), .int .u64 a0, .int .i64 (-1), .int .i64 (wrap64 (a3)), .int .u32 a1, .slice Ao58 x153005_6.length co58, .slice none 0 0]) ?_ 6 _ rfl; (with_reducible repeat (first | refine blk_drewN ?_ _ | refine blk_drew ?_ | refine blk_alloc ?_ _)); refine blk_put (cs := #[.int .i64 (wrap64 (a5)), .int .u64 a0, .int .i64 (-1), .int .i64 (wrap64 (a3)), .int .u32 a1, .slice none 0 0, .slice none 0 0]) ?_ 5 _ rfl; (with_reducible repeat (first | refine blk_drewN ?_ _ | refine blk_drew ?_ | refine blk_alloc ?_ _)); refine blk_put (cs := #[.int .i64 (wrap64 (a5)), .int .u64 a0, .int .i64 (-1), .int .i64 (wrap64 (a3)), .int .u32 0, .slice none 0 0, .slice none 0 0]) ?_ 4 _ rfl; (with_reducible repeat (first | refine blk_drewN ?_ _ | refine blk_drew ?_ | refine blk_alloc ?_ _)); refine blk_put (cs := #[.int .i64 (wrap64 (a5)), .int .u64 a0, .int .i64 (-1), .int .i64 0, .int .u32 0, .slice none 0 0, .slice none 0 0]) ?_ 3 _ rfl; (with_reducible repeat (first | refine blk_drewN ?_ _ | refine blk_drew ?_ | refine blk_alloc ?_ _)); refine blk_put (cs := #[.int .i64 (wrap64 (a5)), .int .u64 a0, .int .i64 0, .int .i64 0, .int .u32 0, .slice none 0 0, .slice none 0 0]) ?_ 2 _ rfl; (with_reducible repeat (first | refine blk_drewN ?_ _ | refine blk_drew ?_ | refine blk_alloc ?_ _)); refine blk_put (cs := #[.int .i64 (wrap64 (a5)), .int .u64 0, .int .i64 0, .int .i64 0, .int .u32 0, .slice none 0 0, .slice none 0 0]) ?_ 1 _ rfl; (with_reducible repeat (first | refine blk_drewN ?_ _ | refine blk_drew ?_ | refine blk_alloc ?_ _)); refine blk_put (cs := #[.int .i64 0, .int .u64 0, .int .i64 0, .int .i64 0, .int .u32 0, .slice none 0 0, .slice none 0 0]) ?_ 0 _ rfl; (with_reducible repeat (first | refine blk_drewN ?_ _ | refine blk_drew ?_ | refine blk_alloc ?_ _)); refine blk_far ?_ NB151_152.out _; (with_reducible repeat (first | refine blk_drewN ?_ _ | refine blk_drew ?_ | refine blk_alloc ?_ _)); refine blk_far ?_ NB151_152.out _; (with_reducible repeat (first | refine blk_drewN ?_ _ | refine blk_drew ?_ | refine blk_alloc ?_ _)); exact BK151.out) Try.underlying56 rfl (by kernel_rfl)) rfl ?_
              exact ⟨_, _, by first | rfl | (simp [errW_none, errW_some] <;> rfl) | (simp [*, errW_none, errW_some] <;> rfl) | (refine congrArg (fun z_ : Int => Ending.returned (.bool (z_ == _))) ?_; simp only [IntKind.wrap, IntKind.bits, IntKind.signed]; simp <;> omega), by (with_reducible repeat (first | apply Kd.R_alloc | apply Kd.R_drewN | apply Kd.R_drew)); exact Kd.R_mono (Kd.R_far (p := ⟨gb151, 6, none⟩) (Kd.R_far (p := ⟨gb151, 5, none⟩) (Kd.R_far (p := ⟨gb151, 4, none⟩) (Kd.R_far (p := ⟨gb151, 3, none⟩) (Kd.R_far (p := ⟨gb151, 2, none⟩) (Kd.R_far (p := ⟨gb151, 1, none⟩) (Kd.R_far (p := ⟨gb151, 0, none⟩) (Kd.R_far (p := ⟨gb152, 2, none⟩) (Kd.R_far (p := ⟨gb152, 0, none⟩) (Kd.R_types (Kd.R_types HO_153005.out BK152.out (by decide)) BK151.out (by decide)) (fun _ hk => hk.1.2) (.int .i64 (wrap64 (a5)))) (fun _ hk => hk.1.2) (.int .i64 (-1))) (fun _ hk => hk.2) (.int .i64 (wrap64 (a5)))) (fun _ hk => hk.2) (.int .u64 a0)) (fun _ hk => hk.2) (.int .i64 (-1))) (fun _ hk => hk.2) (.int .i64 (wrap64 (a3)))) (fun _ hk => hk.2) (.int .u32 a1)) (fun _ hk => hk.2) (.slice Ao58 x153005_6.length co58)) (fun _ hk => hk.2) (.slice none 0 0)) (fun _ hk => hk.1.1), by first | exact Kd.R_nil _ _ _ _ _ | exact Kd.N_nil _ _ _ _ _ | exact Kd.V_nil _ _ _ _ _ | exact Kd.Q_nil _ _ _ _ _ | exact Kd.S_nil _ _ _ _ _, by repeat (first | (with_reducible first | exact HB.out | apply below_alloc | apply pw_below_drewN | apply below_drew1 | refine below_set ?_ GE151.out | refine below_set ?_ GE152.out) | exact HB.out)⟩
            · rw [if_neg c54] at H
              have c54b0 : decide (230 < a5) = false := decide_eq_false c54
              clear c54
              simp only [Option.some.injEq, Prod.mk.injEq] at H
              obtain ⟨rfl, rfl, rfl, rfl, rfl, rfl, rfl⟩ := H
              have hnb59 := NB152_151.out
              have hnc59 := NB151_152.out
              have hcz60_0 : wc.cell? ⟨gb152, 0, none⟩ = some (.int .i64 (wrap64 (1 + (wrap64 (Int.tmod a5 8))))) := (blk_cell BK152.out 0).trans rfl
              have hcz60_1 : wc.cell? ⟨gb152, 1, none⟩ = some (.int .u64 a0) := (blk_cell BK152.out 1).trans rfl
              have hcz60_2 : wc.cell? ⟨gb152, 2, none⟩ = some (.int .i64 (wrap64 (a2))) := (blk_cell BK152.out 2).trans rfl
              have hcz60_3 : wc.cell? ⟨gb152, 3, none⟩ = some (.int .i64 (wrap64 (a3))) := (blk_cell BK152.out 3).trans rfl
              have hcz60_4 : wc.cell? ⟨gb152, 4, none⟩ = some (.int .u32 a1) := (blk_cell BK152.out 4).trans rfl
              have hcz60_5 : wc.cell? ⟨gb152, 5, none⟩ = some (u153005) := (blk_cell BK152.out 5).trans rfl
              have hcz60_6 : wc.cell? ⟨gb152, 6, none⟩ = some (.slice none 0 0) := (blk_cell BK152.out 6).trans rfl
              have hfz60_0 := blk_frozen BK152.out 0
              have hfz60_1 := blk_frozen BK152.out 1
              have hfz60_2 := blk_frozen BK152.out 2
              have hfz60_3 := blk_frozen BK152.out 3
              have hfz60_4 := blk_frozen BK152.out 4
              have hfz60_5 := blk_frozen BK152.out 5
              have hfz60_6 := blk_frozen BK152.out 6
              have hcz61_0 : wc.cell? ⟨gb151, 0, none⟩ = some (.int .i64 0) := (blk_cell BK151.out 0).trans rfl
              have hcz61_1 : wc.cell? ⟨gb151, 1, none⟩ = some (.int .u64 0) := (blk_cell BK151.out 1).trans rfl
              have hcz61_2 : wc.cell? ⟨gb151, 2, none⟩ = some (.int .i64 0) := (blk_cell BK151.out 2).trans rfl
              have hcz61_3 : wc.cell? ⟨gb151, 3, none⟩ = some (.int .i64 0) := (blk_cell BK151.out 3).trans rfl
              have hcz61_4 : wc.cell? ⟨gb151, 4, none⟩ = some (.int .u32 0) := (blk_cell BK151.out 4).trans rfl
              have hcz61_5 : wc.cell? ⟨gb151, 5, none⟩ = some (.slice none 0 0) := (blk_cell BK151.out 5).trans rfl
              have hcz61_6 : wc.cell? ⟨gb151, 6, none⟩ = some (.slice none 0 0) := (blk_cell BK151.out 6).trans rfl
              have hfz61_0 := blk_frozen BK151.out 0
              have hfz61_1 := blk_frozen BK151.out 1
              have hfz61_2 := blk_frozen BK151.out 2
              have hfz61_3 := blk_frozen BK151.out 3
              have hfz61_4 := blk_frozen BK151.out 4
              have hfz61_5 := blk_frozen BK151.out 5
              have hfz61_6 := blk_frozen BK151.out 6
              obtain ⟨Ao62, co62, eo62⟩ := Kd.R_slice HO_153005.out
              subst eo62
              go_wp2
              refine bodyPost_ret (results_cell_row rfl _ _ gb151 56 #[.int .i64 (wrap64 (1 + (wrap64 (Int.tmod a5 8)))), .int .u64 a0, .int .i64 (wrap64 (a2)), .int .i64 (wrap64 (a3)), .int .u32 a1, .slice Ao62 x153005_6.length co62, .slice none 0 0] (0, 0) _ rfl (by (with_reducible repeat (first | refine blk_drewN ?_ _ | refine blk_drew ?_ | refine blk_alloc ?_ _)); refine blk_put (cs := #[.int .i64 (wrap64 (1 + (wrap64 (Int.tmod a5 8)))), .int .u64 a0, .int .i64 (wrap64 (a2)), .int .i64 (wrap64 (a3)), .int .u32 a1, .slice Ao62 x153005_6.length co62, .slice none 0 0]) ?_ 6 _ rfl; (with_reducible repeat (first | refine blk_drewN ?_ _ | refine blk_drew ?_ | refine blk_alloc ?_ _)); refine blk_put (cs := #[.int .i64 (wrap64 (1 + (wrap64 (Int.tmod a5 8)))), .int .u64 a0, .int .i64 (wrap64 (a2)), .int .i64 (wrap64 (a3)), .int .u32 a1, .slice none 0 0, .slice none 0 0]) ?_ 5 _ rfl; (with_reducible repeat (first | refine blk_drewN ?_ _ | refine blk_drew ?_ | refine blk_alloc ?_ _)); refine blk_put (cs := #[.int .i64 (wrap64 (1 + (wrap64 (Int.tmod a5 8)))), .int .u64 a0, .int .i64 (wrap64 (a2)), .int .i64 (wrap64 (a3)), .int .u32 0, .slice none 0 0, .slice none 0 0]) ?_ 4 _ rfl; (with_reducible repeat (first | refine blk_drewN ?_ _ | refine blk_drew ?_ | refine blk_alloc ?_ _)); refine blk_put (cs := #[.int .i64 (wrap64 (1 + (wrap64 (Int.tmod a5 8)))), .int .u64 a0, .int .i64 (wrap64 (a2)), .int .i64 0, .int .u32 0, .slice none 0 0, .slice none 0 0]) ?_ 3 _ rfl; (with_reducible repeat (first | refine blk_drewN ?_ _ | refine blk_drew ?_ | refine blk_alloc ?_ _)); refine blk_put (cs := #[.int .i64 (wrap64 (1 + (wrap64 (Int.tmod a5 8)))), .int .u64 a0, .int .i64 0, .int .i64 0, .int .u32 0, .slice none 0 0, .slice none 0 0]) ?_ 2 _ rfl; (with_reducible repeat (first | refine blk_drewN ?_ _ | refine blk_drew ?_ | refine blk_alloc ?_ _)); refine blk_put (cs := #[.int .i64 (wrap64 (1 + (wrap64 (Int.tmod a5 8)))), .int .u64 0, .int .i64 0, .int .i64 0, .int .u32 0, .slice none 0 0, .slice none 0 0]) ?_ 1 _ rfl; (with_reducible repeat (first | refine blk_drewN ?_ _ | refine blk_drew ?_ | refine blk_alloc ?_ _)); refine blk_put (cs := #[.int .i64 0, .int .u64 0, .int .i64 0, .int .i64 0, .int .u32 0, .slice none 0 0, .slice none 0 0]) ?_ 0 _ rfl; (with_reducible repeat (first | refine blk_drewN ?_ _ | refine blk_drew ?_ | refine blk_alloc ?_ _)); exact BK151.out) Try.underlying56 rfl (by kernel_rfl)) rfl ?_
              exact ⟨_, _, by first | rfl | (simp [errW_none, errW_some] <;> rfl) | (simp [*, errW_none, errW_some] <;> rfl) | (refine congrArg (fun z_ : Int => Ending.returned (.bool (z_ == _))) ?_; simp only [IntKind.wrap, IntKind.bits, IntKind.signed]; simp <;> omega), by (with_reducible repeat (first | apply Kd.R_alloc | apply Kd.R_drewN | apply Kd.R_drew)); exact Kd.R_mono (Kd.R_far (p := ⟨gb151, 6, none⟩) (Kd.R_far (p := ⟨gb151, 5, none⟩) (Kd.R_far (p := ⟨gb151, 4, none⟩) (Kd.R_far (p := ⟨gb151, 3, none⟩) (Kd.R_far (p := ⟨gb151, 2, none⟩) (Kd.R_far (p := ⟨gb151, 1, none⟩) (Kd.R_far (p := ⟨gb151, 0, none⟩) (Kd.R_types HO_153005.out BK151.out (by decide)) (fun _ hk => hk.2) (.int .i64 (wrap64 (1 + (wrap64 (Int.tmod a5 8)))))) (fun _ hk => hk.2) (.int .u64 a0)) (fun _ hk => hk.2) (.int .i64 (wrap64 (a2)))) (fun _ hk => hk.2) (.int .i64 (wrap64 (a3)))) (fun _ hk => hk.2) (.int .u32 a1)) (fun _ hk => hk.2) (.slice Ao62 x153005_6.length co62)) (fun _ hk => hk.2) (.slice none 0 0)) (fun _ hk => hk.1), by first | exact Kd.R_nil _ _ _ _ _ | exact Kd.N_nil _ _ _ _ _ | exact Kd.V_nil _ _ _ _ _ | exact Kd.Q_nil _ _ _ _ _ | exact Kd.S_nil _ _ _ _ _, by repeat (first | (with_reducible first | exact HB.out | apply below_alloc | apply pw_below_drewN | apply below_drew1 | refine below_set ?_ GE151.out | refine below_set ?_ GE152.out) | exact HB.out)⟩
end Go.Proofs.Ytliohoalackhiaa.I
