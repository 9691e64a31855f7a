/- Written by a program of this repo (wip/tools/gprint.py): what functions of the Go program compute, the proofs that they do, and the rows of statements. Conditions: those in each theorem. -/
import Derived.Test.YtliohoalackhiaaZIx0
import Derived.Test.YtliohoalackhiaaZIx6
import Derived.Test.YtliohoalackhiaaZIx7
import Derived.Test.YtliohoalackhiaaZIx8
import Derived.Test.YtliohoalackhiaaZIx11
import Derived.Test.YtliohoalackhiaaZIx12
import Derived.Test.YtliohoalackhiaaZIx13
import Derived.Test.YtliohoalackhiaaZIx16
import Derived.Test.YtliohoalackhiaaZIgParses
import Derived.Test.YtliohoalackhiaaZW
namespace Go.Proofs.Ytliohoalackhiaa.I
open Go.RowKit Go.Proofs.YtliohoalackhiaaW.PrintWords Go.Proofs.YtliohoalackhiaaW.PrintLast Go.Proofs.YtliohoalackhiaaW.PrintMore
attribute [local go_sem] max2_int min2_int max_two min_two max_three min_three max_four min_four   -- for this text's walks alone
set_option linter.unusedVariables false
set_option linter.unusedSimpArgs false
mutual
def scullerlaw13_PackCodes.j0 : Nat → List Int → Int → Int → Int → Int → List Int → Int → Int → Int → Bool → Int → Int → Int → Int → Int → List Int → List Int → Option (Bool)
  | 0, _, _, _, _, _, _, _, _, _, _, _, _, _, _, _, _, _ => none
  | k + 1, x1, x2, x3, x4, x5, x6, x7, x8, x9, x49, x249000, x249001, x249002, x249003, x249004, x249005, x249006 => if x49 = true then ((scullerlaw13_known.f k).bind fun t250 => (some t250)) else ((scullerlaw13_Gram.f k x2 x3 x4 x5 x6 x7).bind fun bt251 => ((scullerref13_Encode.f k bt251.1 bt251.2.1 bt251.2.2.1 bt251.2.2.2.1 bt251.2.2.2.2.1 bt251.2.2.2.2.2.1 bt251.2.2.2.2.2.2).bind fun bt263 => (if ([] : List Int).length + bt263.1.length < 140737488355328 then ((some (([] : List Int) ++ bt263.1 : List Int)).bind fun y267 => (if (y267.length : Int) > 0 then (if (y267.length : Int) = 0 then (none) else (if 0 ≤ (Int.tmod (wrap64 (x8)) (y267.length : Int)) then (if (Int.tmod (wrap64 (x8)) (y267.length : Int)) < (y267.length : Int) then (scullerlaw13_PackCodes.j1 k x1 bt263.1 (y267.set ((Int.tmod (wrap64 (x8)) (y267.length : Int)) : Int).toNat x9) x249000 x249001 x249002 x249003 x249004 x249005 x249006 bt251.1 bt251.2.1 bt251.2.2.1 bt251.2.2.2.1 bt251.2.2.2.2.1 bt251.2.2.2.2.2.1 bt251.2.2.2.2.2.2) else (none)) else (none))) else (scullerlaw13_PackCodes.j1 k x1 bt263.1 y267 x249000 x249001 x249002 x249003 x249004 x249005 x249006 bt251.1 bt251.2.1 bt251.2.2.1 bt251.2.2.2.1 bt251.2.2.2.2.1 bt251.2.2.2.2.2.1 bt251.2.2.2.2.2.2))) else (none))))
def scullerlaw13_PackCodes.j1 : Nat → List Int → List Int → List Int → Int → Int → Int → Int → Int → List Int → List Int → Int → Int → Int → Int → Int → List Int → List Int → Option (Bool)
  | 0, _, _, _, _, _, _, _, _, _, _, _, _, _, _, _, _, _ => none
  | k + 1, x1, x22, x24, x249000, x249001, x249002, x249003, x249004, x249005, x249006, x263000, x263001, x263002, x263003, x263004, x263005, x263006 => if 0 ≤ (mx (wrap64 ((x24.length : Int) - 4)) 0) then (if (mx (wrap64 ((x24.length : Int) - 4)) 0) ≤ (x24.length : Int) then ((some (x24.take ((mx (wrap64 ((x24.length : Int) - 4)) 0) : Int).toNat : List Int)).bind fun y271 => (if ([] : List Int).length + y271.length < 140737488355328 then ((scullerlaw13_encodes.f k x249000 x249001 x249002 x249003 x249004 x249005 x249006).bind fun t278 => (if t278 = true then ((scullerlaw13_encodes.f k x263000 x263001 x263002 x263003 x263004 x263005 x263006).bind fun t279 => (if t279 = true then ((scullerlaw13_parses.f k x1).bind fun t280 => (if t280 = true then ((scullerlaw13_parses.f k x22).bind fun t281 => (if t281 = true then ((scullerlaw13_parses.f k x24).bind fun t282 => (if t282 = true then ((scullerref02_Seal.f k (([] : List Int) ++ y271)).bind fun t283 => ((scullerlaw13_parses.f k t283).bind fun t286 => (if t286 = true then ((scullerref02_Seal.f k x1).bind fun t287 => ((scullerlaw13_parses.f k t287).bind fun t290 => (if t290 = true then ((pack_Same.f k x249000 x249001 x249002 x249003 x249004 x249005 x249006 x263000 x263001 x263002 x263003 x263004 x263005 x263006).bind fun t291 => ((scullerref13_Same.f k x249000 x249001 x249002 x249003 x249004 x249005 x249006 x263000 x263001 x263002 x263003 x263004 x263005 x263006).bind fun t292 => (if (t291 == t292) = true then ((pack_Same.f k x263000 x263001 x263002 x263003 x263004 x263005 x263006 x263000 x263001 x263002 x263003 x263004 x263005 x263006).bind fun t293 => (some t293)) else (some false)))) else (some false)))) else (some false)))) else (some false))) else (some false))) else (some false))) else (some false))) else (some false))) else (none))) else (none)) else (none)
end
def scullerlaw13_PackCodes.f (k : Nat) (a0_0 : Int) (a0_1 : Int) (a0_2 : Int) (a0_3 : Int) (a0_4 : Int) (l0_5 : List Int) (l0_6 : List Int) (l1 : List Int) (a2 : Int) (a3 : Int) (a4 : Int) (a5 : Int) (l6 : List Int) (a7 : Int) (a8 : Int) (a9 : Int) : Option (Bool) := if (l1.length : Int) > 300 then (scullerlaw13_PackCodes.j0 k l1 a2 a3 a4 a5 l6 a7 a8 a9 true a0_0 a0_1 a0_2 a0_3 a0_4 l0_5 l0_6) else (if (l0_6.length : Int) > 200 then (scullerlaw13_PackCodes.j0 k l1 a2 a3 a4 a5 l6 a7 a8 a9 true a0_0 a0_1 a0_2 a0_3 a0_4 l0_5 l0_6) else (if (l0_5.length : Int) > 40 then (scullerlaw13_PackCodes.j0 k l1 a2 a3 a4 a5 l6 a7 a8 a9 true a0_0 a0_1 a0_2 a0_3 a0_4 l0_5 l0_6) else (if (l6.length : Int) > 200 then (scullerlaw13_PackCodes.j0 k l1 a2 a3 a4 a5 l6 a7 a8 a9 true a0_0 a0_1 a0_2 a0_3 a0_4 l0_5 l0_6) else ((scullerlaw13_known.f k).bind fun t249 => (scullerlaw13_PackCodes.j0 k l1 a2 a3 a4 a5 l6 a7 a8 a9 (!t249) a0_0 a0_1 a0_2 a0_3 a0_4 l0_5 l0_6)))))
def scullerlaw13_PackCodes.T11 : Bool × List (List Nat × List Nat) := (true, [([], []), ([0], [0]), ([1, 1], [1]), ([2], [2]), ([3, 2, 2], [2, 3]), ([2, 4], [2, 4]), ([5, 4], [5]), ([6], [6]), ([7, 6, 6], [6, 7]), ([6, 8], [6, 8]), ([9, 8], [9]), ([10], [10]), ([11, 10, 10], [10, 11]), ([10, 12], [10, 12]), ([13, 12], [13]), ([14], [14]), ([15, 14, 14], [14, 15]), ([14, 16], [14, 16]), ([17, 16], [17]), ([18], [18]), ([19, 18, 18], [18, 19]), ([20, 20, 18], [18, 20]), ([18, 21], [18, 21]), ([22, 21], [22]), ([23], [23]), ([24, 23, 23], [23, 24]), ([25, 25, 23], [23, 25]), ([23, 26], [23, 26]), ([27, 26], [27]), ([28], [28]), ([28], [28]), ([29, 30, 28, 28], [28, 29, 30]), ([28], [28]), ([28], [28]), ([32, 33, 31, 28], [28, 32, 33]), ([31, 34, 28], [28, 31, 34]), ([28, 35], [28, 35]), ([36, 34], [36]), ([37], [37]), ([37], [37]), ([38, 39, 37, 37], [37, 38, 39]), ([37, 40], [37, 40]), ([41, 40, 0, 1, 2, 3, 4, 5, 6, 7, 8, 9, 10, 11, 12, 13, 14, 15, 16, 17, 18, 19, 20, 21, 22, 23, 24, 25, 26, 27, 28, 29, 30, 31, 32, 33, 34, 35, 36, 37, 38, 39, 40, 41], [41])])
def scullerlaw13_PackCodes.B11 : List Nat := [0, 1, 3, 7, 15, 31, 63, 127, 255, 511, 1023, 2047, 4095, 8191, 16383, 32767, 65535, 131071, 262143, 524287, 1048575, 2097151, 4194303, 8388607, 16777215, 33554431, 67108863, 134217727, 268435455, 536870911, 536870911, 2147483647, 536870911, 536870911, 17179869183, 34359738367, 68719476735, 137438953471, 274877906943, 274877906943, 1099511627775, 2199023255551, 4398046511103]
theorem scullerlaw13_PackCodes.tab11 : rtab .any (opsOf Try.f7 11) = scullerlaw13_PackCodes.T11 := by kernel_rfl
theorem scullerlaw13_PackCodes.bits11 : waitsOk scullerlaw13_PackCodes.T11.2 scullerlaw13_PackCodes.B11 = true := by kernel_rfl
set_option maxHeartbeats 8000000 in
set_option maxRecDepth 100000 in
theorem scullerlaw13_PackCodes.calls (k : Nat) (a0_0 : Int) (a0_1 : Int) (a0_2 : Int) (a0_3 : Int) (a0_4 : Int) (A0_5 : Option Addr) (c0_5 : Nat) (l0_5 : List Int) (A0_6 : Option Addr) (c0_6 : Nat) (l0_6 : List Int) (A1 : Option Addr) (c1 : Nat) (l1 : List Int) (a2 : Int) (a3 : Int) (a4 : Int) (a5 : Int) (A6 : Option Addr) (c6 : Nat) (l6 : List Int) (a7 : Int) (a8 : Int) (a9 : Int) (r : Bool) (w : World) (hr0_5 : Kd.C (Kd.int .i64) w A0_5 l0_5.length l0_5) (hc0_5 : l0_5.length ≤ c0_5) (hr0_6 : Kd.C (Kd.int .u8) w A0_6 l0_6.length l0_6) (hc0_6 : l0_6.length ≤ c0_6) (hr1 : Kd.C (Kd.int .u8) w A1 l1.length l1) (hc1 : l1.length ≤ c1) (hr6 : Kd.C (Kd.int .u8) w A6 l6.length l6) (hc6 : l6.length ≤ c6) (h : scullerlaw13_PackCodes.f k a0_0 a0_1 a0_2 a0_3 a0_4 l0_5 l0_6 l1 a2 a3 a4 a5 l6 a7 a8 a9 = some r) (hr_ : r = true) :
    Calls Try.prog 7 #[.agg #[.int .i64 a0_0, .int .u64 a0_1, .int .i64 a0_2, .int .i64 a0_3, .int .u32 a0_4, .slice A0_5 l0_5.length c0_5, .slice A0_6 l0_6.length c0_6], .slice A1 l1.length c1, .int .u64 a2, .int .u32 a3, .int .u16 a4, .int .u16 a5, .slice A6 l6.length c6, .int .u8 a7, .int .u16 a8, .int .u8 a9] w fun e w' => e = .returned (.bool r) ∧ Below w.heap.size w w' := by
  have HRT_ := Aside0.mk hr_
  clear hr_
  have hu56 := Try.underlying56
  have HR0_5 := Aside0.mk hr0_5
  have HC0_5 := Aside0.mk hc0_5
  clear hr0_5 hc0_5
  have HR0_6 := Aside0.mk hr0_6
  have HC0_6 := Aside0.mk hc0_6
  clear hr0_6 hc0_6
  have HR1 := Aside0.mk hr1
  have HC1 := Aside0.mk hc1
  clear hr1 hc1
  have HR6 := Aside0.mk hr6
  have HC6 := Aside0.mk hc6
  clear hr6 hc6
  have HB := Aside0.mk (Below.refl w.heap.size w)
  have H : (if (l1.length : Int) > 300 then (scullerlaw13_PackCodes.j0 k l1 a2 a3 a4 a5 l6 a7 a8 a9 true a0_0 a0_1 a0_2 a0_3 a0_4 l0_5 l0_6) else (if (l0_6.length : Int) > 200 then (scullerlaw13_PackCodes.j0 k l1 a2 a3 a4 a5 l6 a7 a8 a9 true a0_0 a0_1 a0_2 a0_3 a0_4 l0_5 l0_6) else (if (l0_5.length : Int) > 40 then (scullerlaw13_PackCodes.j0 k l1 a2 a3 a4 a5 l6 a7 a8 a9 true a0_0 a0_1 a0_2 a0_3 a0_4 l0_5 l0_6) else (if (l6.length : Int) > 200 then (scullerlaw13_PackCodes.j0 k l1 a2 a3 a4 a5 l6 a7 a8 a9 true a0_0 a0_1 a0_2 a0_3 a0_4 l0_5 l0_6) else ((scullerlaw13_known.f k).bind fun t249 => (scullerlaw13_PackCodes.j0 k l1 a2 a3 a4 a5 l6 a7 a8 a9 (!t249) a0_0 a0_1 a0_2 a0_3 a0_4 l0_5 l0_6)))))) = some r := h
  clear h
  have HC11 := Aside0.mk H
  clear H
  go_enter Try.func7, Try.ntmps7
  go_upto_region 1 with (first | ((with_reducible refine gate_dst (N := 10) rfl ?_); (try (refine gate_guard (by rfl) ?_; dsimp only)); refine box_event ?hg (N := 10) ?hd (cs := #[.int .i64 a0_0, .int .u64 a0_1, .int .i64 a0_2, .int .i64 a0_3, .int .u32 a0_4, .slice A0_5 l0_5.length c0_5, .slice A0_6 l0_6.length c0_6]) (t := 56) ?hr ?_; (case hd => rfl); (case hg => rfl); (case hr => first | (go_simp; done) | (go_simp; rfl)); intro gb248 hg w12 hbox hb; have n0_ := Aside0.mk (below_step (Far.Bb HB.out) hb); have n1_ := Aside0.mk (hbox); have n2_ := Aside0.mk ((by rw [hg]; exact (below_size (Far.Bb HB.out)) : w.heap.size ≤ gb248)); have n3_ := Aside0.mk ((by rw [hg]; exact (below_size (Far.Bb HB.out)) : w.heap.size ≤ gb248)); clear HB; have HB := n0_; have BK248 := n1_; have GW248 := n2_; have GE248 := n3_; clear n0_ n1_ n2_ n3_; clear hb hbox hg))
  (try simp only [Act.put, List.setIfInBounds_toArray, List.set_cons_zero, List.set_cons_succ])
  go_cut [49] (fun v49 wc => ∃ (kq : Nat) (x49_10 : Bool), v49 = .bool x49_10 ∧ Aside0 (scullerlaw13_PackCodes.j0 kq l1 a2 a3 a4 a5 l6 a7 a8 a9 x49_10 a0_0 a0_1 a0_2 a0_3 a0_4 l0_5 l0_6 = some r) ∧ Aside0 (kq ≤ k) ∧ Aside0 (wc.heap[gb248]? = some (.cells #[.int .i64 a0_0, .int .u64 a0_1, .int .i64 a0_2, .int .i64 a0_3, .int .u32 a0_4, (.slice A0_5 l0_5.length c0_5), (.slice A0_6 l0_6.length c0_6)] 56 (0, 0))) ∧ Aside0 (Below w.heap.size w wc))
  case first =>
    have H := HC11.out
    clear HC11
    by_cases c13 : (l1.length : Int) > 300
    · rw [if_pos c13] at H
      have c13b0 : decide (300 < (l1.length : Int)) = true := decide_eq_true c13
      have c13b1 : decide (300 < l1.length) = true := decide_eq_true (by omega)
      clear c13
      (first | rw [c13b0] | rw [c13b1] | (simp only [i64_w, i32_w]; rw [c13b0]) | skip)
      have H' := Aside0.mk H
      clear H
      go_wp2
      go_meet
      case rel => exact ⟨_, (true), (by first | rfl | (simp; done) | (simp [*]; done)), H', ⟨by first | omega | exact Nat.le_refl _⟩, ⟨by (with_reducible repeat (first | refine blk_drewN ?_ _ | refine blk_drew ?_ | refine blk_alloc ?_ _)); exact BK248.out⟩, ⟨by repeat (first | (with_reducible first | exact HB.out | apply below_alloc | apply pw_below_drewN | apply below_drew1 | refine below_set ?_ GE248.out) | exact HB.out)⟩⟩
    · rw [if_neg c13] at H
      have c13b0 : decide (300 < (l1.length : Int)) = false := decide_eq_false c13
      have c13b1 : decide (300 < l1.length) = false := decide_eq_false (by omega)
      clear c13
      (first | rw [c13b0] | rw [c13b1] | (simp only [i64_w, i32_w]; rw [c13b0]) | skip)
      by_cases c14 : (l0_6.length : Int) > 200
      · rw [if_pos c14] at H
        have c14b0 : decide (200 < (l0_6.length : Int)) = true := decide_eq_true c14
        have c14b1 : decide (200 < l0_6.length) = true := decide_eq_true (by omega)
        clear c14
        have H' := Aside0.mk H
        clear H
        have hcz15_0 : w12.cell? ⟨gb248, 0, none⟩ = some (.int .i64 a0_0) := (blk_cell BK248.out 0).trans rfl
        have hcz15_1 : w12.cell? ⟨gb248, 1, none⟩ = some (.int .u64 a0_1) := (blk_cell BK248.out 1).trans rfl
        have hcz15_2 : w12.cell? ⟨gb248, 2, none⟩ = some (.int .i64 a0_2) := (blk_cell BK248.out 2).trans rfl
        have hcz15_3 : w12.cell? ⟨gb248, 3, none⟩ = some (.int .i64 a0_3) := (blk_cell BK248.out 3).trans rfl
        have hcz15_4 : w12.cell? ⟨gb248, 4, none⟩ = some (.int .u32 a0_4) := (blk_cell BK248.out 4).trans rfl
        have hcz15_5 : w12.cell? ⟨gb248, 5, none⟩ = some (.slice A0_5 l0_5.length c0_5) := (blk_cell BK248.out 5).trans rfl
        have hcz15_6 : w12.cell? ⟨gb248, 6, none⟩ = some (.slice A0_6 l0_6.length c0_6) := (blk_cell BK248.out 6).trans rfl
        have hfz15_0 := blk_frozen BK248.out 0
        have hfz15_1 := blk_frozen BK248.out 1
        have hfz15_2 := blk_frozen BK248.out 2
        have hfz15_3 := blk_frozen BK248.out 3
        have hfz15_4 := blk_frozen BK248.out 4
        have hfz15_5 := blk_frozen BK248.out 5
        have hfz15_6 := blk_frozen BK248.out 6
        go_wp2
        go_meet
        case rel => exact ⟨_, (true), (by first | rfl | (simp; done) | (simp [*]; done)), H', ⟨by first | omega | exact Nat.le_refl _⟩, ⟨by (with_reducible repeat (first | refine blk_drewN ?_ _ | refine blk_drew ?_ | refine blk_alloc ?_ _)); exact BK248.out⟩, ⟨by repeat (first | (with_reducible first | exact HB.out | apply below_alloc | apply pw_below_drewN | apply below_drew1 | refine below_set ?_ GE248.out) | exact HB.out)⟩⟩
      · rw [if_neg c14] at H
        have c14b0 : decide (200 < (l0_6.length : Int)) = false := decide_eq_false c14
        have c14b1 : decide (200 < l0_6.length) = false := decide_eq_false (by omega)
        clear c14
        by_cases c16 : (l0_5.length : Int) > 40
        · rw [if_pos c16] at H
          have c16b0 : decide (40 < (l0_5.length : Int)) = true := decide_eq_true c16
          have c16b1 : decide (40 < l0_5.length) = true := decide_eq_true (by omega)
          clear c16
          have H' := Aside0.mk H
          clear H
          have hcz17_0 : w12.cell? ⟨gb248, 0, none⟩ = some (.int .i64 a0_0) := (blk_cell BK248.out 0).trans rfl
          have hcz17_1 : w12.cell? ⟨gb248, 1, none⟩ = some (.int .u64 a0_1) := (blk_cell BK248.out 1).trans rfl
          have hcz17_2 : w12.cell? ⟨gb248, 2, none⟩ = some (.int .i64 a0_2) := (blk_cell BK248.out 2).trans rfl
          have hcz17_3 : w12.cell? ⟨gb248, 3, none⟩ = some (.int .i64 a0_3) := (blk_cell BK248.out 3).trans rfl
          have hcz17_4 : w12.cell? ⟨gb248, 4, none⟩ = some (.int .u32 a0_4) := (blk_cell BK248.out 4).trans rfl
          have hcz17_5 : w12.cell? ⟨gb248, 5, none⟩ = some (.slice A0_5 l0_5.length c0_5) := (blk_cell BK248.out 5).trans rfl
          have hcz17_6 : w12.cell? ⟨gb248, 6, none⟩ = some (.slice A0_6 l0_6.length c0_6) := (blk_cell BK248.out 6).trans rfl
          have hfz17_0 := blk_frozen BK248.out 0
          have hfz17_1 := blk_frozen BK248.out 1
          have hfz17_2 := blk_frozen BK248.out 2
          have hfz17_3 := blk_frozen BK248.out 3
          have hfz17_4 := blk_frozen BK248.out 4
          have hfz17_5 := blk_frozen BK248.out 5
          have hfz17_6 := blk_frozen BK248.out 6
          go_wp2
          go_meet
          case rel => exact ⟨_, (true), (by first | rfl | (simp; done) | (simp [*]; done)), H', ⟨by first | omega | exact Nat.le_refl _⟩, ⟨by (with_reducible repeat (first | refine blk_drewN ?_ _ | refine blk_drew ?_ | refine blk_alloc ?_ _)); exact BK248.out⟩, ⟨by repeat (first | (with_reducible first | exact HB.out | apply below_alloc | apply pw_below_drewN | apply below_drew1 | refine below_set ?_ GE248.out) | exact HB.out)⟩⟩
        · rw [if_neg c16] at H
          have c16b0 : decide (40 < (l0_5.length : Int)) = false := decide_eq_false c16
          have c16b1 : decide (40 < l0_5.length) = false := decide_eq_false (by omega)
          clear c16
          by_cases c18 : (l6.length : Int) > 200
          · rw [if_pos c18] at H
            have c18b0 : decide (200 < (l6.length : Int)) = true := decide_eq_true c18
            have c18b1 : decide (200 < l6.length) = true := decide_eq_true (by omega)
            clear c18
            have H' := Aside0.mk H
            clear H
            have hcz19_0 : w12.cell? ⟨gb248, 0, none⟩ = some (.int .i64 a0_0) := (blk_cell BK248.out 0).trans rfl
            have hcz19_1 : w12.cell? ⟨gb248, 1, none⟩ = some (.int .u64 a0_1) := (blk_cell BK248.out 1).trans rfl
            have hcz19_2 : w12.cell? ⟨gb248, 2, none⟩ = some (.int .i64 a0_2) := (blk_cell BK248.out 2).trans rfl
            have hcz19_3 : w12.cell? ⟨gb248, 3, none⟩ = some (.int .i64 a0_3) := (blk_cell BK248.out 3).trans rfl
            have hcz19_4 : w12.cell? ⟨gb248, 4, none⟩ = some (.int .u32 a0_4) := (blk_cell BK248.out 4).trans rfl
            have hcz19_5 : w12.cell? ⟨gb248, 5, none⟩ = some (.slice A0_5 l0_5.length c0_5) := (blk_cell BK248.out 5).trans rfl
            have hcz19_6 : w12.cell? ⟨gb248, 6, none⟩ = some (.slice A0_6 l0_6.length c0_6) := (blk_cell BK248.out 6).trans rfl
            have hfz19_0 := blk_frozen BK248.out 0
            have hfz19_1 := blk_frozen BK248.out 1
            have hfz19_2 := blk_frozen BK248.out 2
            have hfz19_3 := blk_frozen BK248.out 3
            have hfz19_4 := blk_frozen BK248.out 4
            have hfz19_5 := blk_frozen BK248.out 5
            have hfz19_6 := blk_frozen BK248.out 6
            go_wp2
            go_meet
            case rel => exact ⟨_, (true), (by first | rfl | (simp; done) | (simp [*]; done)), H', ⟨by first | omega | exact Nat.le_refl _⟩, ⟨by (with_reducible repeat (first | refine blk_drewN ?_ _ | refine blk_drew ?_ | refine blk_alloc ?_ _)); exact BK248.out⟩, ⟨by repeat (first | (with_reducible first | exact HB.out | apply below_alloc | apply pw_below_drewN | apply below_drew1 | refine below_set ?_ GE248.out) | exact HB.out)⟩⟩
          · rw [if_neg c18] at H
            have c18b0 : decide (200 < (l6.length : Int)) = false := decide_eq_false c18
            have c18b1 : decide (200 < l6.length) = false := decide_eq_false (by omega)
            clear c18
            replace H := Option.bind_eq_some_iff.mp H
            obtain ⟨t249, A200, H⟩ := H
            replace H : (scullerlaw13_PackCodes.j0 k l1 a2 a3 a4 a5 l6 a7 a8 a9 (!t249) a0_0 a0_1 a0_2 a0_3 a0_4 l0_5 l0_6) = some r := H
            have A20 := Aside0.mk A200
            clear A200
            have H' := Aside0.mk H
            clear H
            have hcz21_0 : w12.cell? ⟨gb248, 0, none⟩ = some (.int .i64 a0_0) := (blk_cell BK248.out 0).trans rfl
            have hcz21_1 : w12.cell? ⟨gb248, 1, none⟩ = some (.int .u64 a0_1) := (blk_cell BK248.out 1).trans rfl
            have hcz21_2 : w12.cell? ⟨gb248, 2, none⟩ = some (.int .i64 a0_2) := (blk_cell BK248.out 2).trans rfl
            have hcz21_3 : w12.cell? ⟨gb248, 3, none⟩ = some (.int .i64 a0_3) := (blk_cell BK248.out 3).trans rfl
            have hcz21_4 : w12.cell? ⟨gb248, 4, none⟩ = some (.int .u32 a0_4) := (blk_cell BK248.out 4).trans rfl
            have hcz21_5 : w12.cell? ⟨gb248, 5, none⟩ = some (.slice A0_5 l0_5.length c0_5) := (blk_cell BK248.out 5).trans rfl
            have hcz21_6 : w12.cell? ⟨gb248, 6, none⟩ = some (.slice A0_6 l0_6.length c0_6) := (blk_cell BK248.out 6).trans rfl
            have hfz21_0 := blk_frozen BK248.out 0
            have hfz21_1 := blk_frozen BK248.out 1
            have hfz21_2 := blk_frozen BK248.out 2
            have hfz21_3 := blk_frozen BK248.out 3
            have hfz21_4 := blk_frozen BK248.out 4
            have hfz21_5 := blk_frozen BK248.out 5
            have hfz21_6 := blk_frozen BK248.out 6
            go_wp2_with (first | (go_at_call 31; (with_reducible refine (scullerlaw13_known.calls k  t249 _ A20.out).mono ?_); rintro e w22 ⟨rfl, hb⟩; have n0_ := Aside0.mk (blk_below (g := gb248) (o := .cells #[.int .i64 a0_0, .int .u64 a0_1, .int .i64 a0_2, .int .i64 a0_3, .int .u32 a0_4, .slice A0_5 l0_5.length c0_5, .slice A0_6 l0_6.length c0_6] 56 (0, 0)) (Far.Ba BK248.out) hb); have n1_ := Aside0.mk (below_step (by repeat (first | (with_reducible first | exact HB.out | apply below_alloc | apply pw_below_drewN | apply below_drew1 | refine below_set ?_ GE248.out) | exact HB.out)) hb); clear BK248 HB; have BK248 := n0_; have HB := n1_; clear n0_ n1_; (try clear hb); (try clear hb2); (try clear hk); (try clear hi)))
            go_meet
            case rel => exact ⟨_, (!t249), (by first | rfl | (simp; done) | (simp [*]; done)), H', ⟨by first | omega | exact Nat.le_refl _⟩, ⟨by (with_reducible repeat (first | refine blk_drewN ?_ _ | refine blk_drew ?_ | refine blk_alloc ?_ _)); exact BK248.out⟩, ⟨by repeat (first | (with_reducible first | exact HB.out | apply below_alloc | apply pw_below_drewN | apply below_drew1 | refine below_set ?_ GE248.out) | exact HB.out)⟩⟩
  case rest =>
    clear HC11; (try clear c1); (try clear p2); (try clear c6); (try clear c7); (try clear c13); (try clear c13b0); (try clear c13b1); (try clear c14); (try clear c14b0); (try clear c14b1); (try clear c16); (try clear c16b0); (try clear c16b1); (try clear c18); (try clear c18b0); (try clear c18b1); (try clear hcz15_0); (try clear hcz15_1); (try clear hcz15_2); (try clear hcz15_3); (try clear hcz15_4); (try clear hcz15_5); (try clear hcz15_6); (try clear hcz17_0); (try clear hcz17_1); (try clear hcz17_2); (try clear hcz17_3); (try clear hcz17_4); (try clear hcz17_5); (try clear hcz17_6); (try clear hcz19_0); (try clear hcz19_1); (try clear hcz19_2); (try clear hcz19_3); (try clear hcz19_4); (try clear hcz19_5); (try clear hcz19_6); (try clear hcz21_0); (try clear hcz21_1); (try clear hcz21_2); (try clear hcz21_3); (try clear hcz21_4); (try clear hcz21_5); (try clear hcz21_6); (try clear hfz15_0); (try clear hfz15_1); (try clear hfz15_2); (try clear hfz15_3); (try clear hfz15_4); (try clear hfz15_5); (try clear hfz15_6); (try clear hfz17_0); (try clear hfz17_1); (try clear hfz17_2); (try clear hfz17_3); (try clear hfz17_4); (try clear hfz17_5); (try clear hfz17_6); (try clear hfz19_0); (try clear hfz19_1); (try clear hfz19_2); (try clear hfz19_3); (try clear hfz19_4); (try clear hfz19_5); (try clear hfz19_6); (try clear hfz21_0); (try clear hfz21_1); (try clear hfz21_2); (try clear hfz21_3); (try clear hfz21_4); (try clear hfz21_5); (try clear hfz21_6)
    obtain ⟨kq, x49_10, rfl, HA, HJ10, BK248, HB⟩ := hcut
    cases kq with
    | zero => exact absurd HA.out (by simp [scullerlaw13_PackCodes.j0])
    | succ kj10 =>
      have H := HA.out
      clear HA
      simp only [scullerlaw13_PackCodes.j0] at H
      by_cases c23 : x49_10 = true
      · subst c23
        have H1 : ((scullerlaw13_known.f kj10).bind fun t250 => (some t250)) = some r := by rw [if_pos rfl] at H; exact H
        clear H
        have H := H1
        clear H1
        replace H := Option.bind_eq_some_iff.mp H
        obtain ⟨t250, A240, H⟩ := H
        replace H : (some t250) = some r := H
        have A24 := Aside0.mk A240
        clear A240
        obtain rfl := Option.some.inj H
        go_wp2_with (first | ((with_reducible refine gate_callee (f := 31) rfl ?_); refine goesL_ (some 50) rfl rfl Try.func31 (by kernel_rfl) rfl #[] rfl (by (try simp only [List.map_toArray, List.map_cons, List.map_nil]); first | done | rfl | (simp only [List.length_drop, List.length_take]; rfl)) ?_; (with_reducible refine (scullerlaw13_known.calls kj10  t250 _ A24.out).mono ?_); rintro e w25 ⟨rfl, hb⟩; refine ⟨_, rfl, ?_⟩; have n0_ := Aside0.mk (blk_below (g := gb248) (o := .cells #[.int .i64 a0_0, .int .u64 a0_1, .int .i64 a0_2, .int .i64 a0_3, .int .u32 a0_4, .slice A0_5 l0_5.length c0_5, .slice A0_6 l0_6.length c0_6] 56 (0, 0)) (Far.Ba BK248.out) hb); have n1_ := Aside0.mk (below_step (by repeat (first | (with_reducible first | exact HB.out | apply below_alloc | apply pw_below_drewN | apply below_drew1 | refine below_set ?_ GE248.out) | exact HB.out)) hb); clear BK248 HB; have BK248 := n0_; have HB := n1_; clear n0_ n1_; (try clear hb); (try clear hb2); (try clear hk); (try clear hi)))
        go_ret
        exact ⟨by first | rfl | (simp [errW_none, errW_some] <;> rfl) | (simp [*, errW_none, errW_some] <;> rfl) | (refine congrArg (fun z_ : Int => Ending.returned (.bool (z_ == _))) ?_; simp only [IntKind.wrap, IntKind.bits, IntKind.signed]; simp <;> omega), by repeat (first | (with_reducible first | exact HB.out | apply below_alloc | apply pw_below_drewN | apply below_drew1 | refine below_set ?_ GE248.out) | exact HB.out)⟩
      · replace c23 := Bool.eq_false_iff.mpr c23
        subst c23
        have H1 : ((scullerlaw13_Gram.f kj10 a2 a3 a4 a5 l6 a7).bind fun bt251 => ((scullerref13_Encode.f kj10 bt251.1 bt251.2.1 bt251.2.2.1 bt251.2.2.2.1 bt251.2.2.2.2.1 bt251.2.2.2.2.2.1 bt251.2.2.2.2.2.2).bind fun bt263 => (if ([] : List Int).length + bt263.1.length < 140737488355328 then ((some (([] : List Int) ++ bt263.1 : List Int)).bind fun y267 => (if (y267.length : Int) > 0 then (if (y267.length : Int) = 0 then (none) else (if 0 ≤ (Int.tmod (wrap64 (a8)) (y267.length : Int)) then (if (Int.tmod (wrap64 (a8)) (y267.length : Int)) < (y267.length : Int) then (scullerlaw13_PackCodes.j1 kj10 l1 bt263.1 (y267.set ((Int.tmod (wrap64 (a8)) (y267.length : Int)) : Int).toNat a9) a0_0 a0_1 a0_2 a0_3 a0_4 l0_5 l0_6 bt251.1 bt251.2.1 bt251.2.2.1 bt251.2.2.2.1 bt251.2.2.2.2.1 bt251.2.2.2.2.2.1 bt251.2.2.2.2.2.2) else (none)) else (none))) else (scullerlaw13_PackCodes.j1 kj10 l1 bt263.1 y267 a0_0 a0_1 a0_2 a0_3 a0_4 l0_5 l0_6 bt251.1 bt251.2.1 bt251.2.2.1 bt251.2.2.2.1 bt251.2.2.2.2.1 bt251.2.2.2.2.2.1 bt251.2.2.2.2.2.2))) else (none)))) = some r := by rw [if_neg (show ¬ (false = true) by decide)] at H; exact H
        clear H
        have H := H1
        clear H1
        replace H := Option.bind_eq_some_iff.mp H
        obtain ⟨⟨t251, t252, t253, t254, t255, t256, t259⟩, A260, H⟩ := H
        replace H : ((scullerref13_Encode.f kj10 t251 t252 t253 t254 t255 t256 t259).bind fun bt263 => (if ([] : List Int).length + bt263.1.length < 140737488355328 then ((some (([] : List Int) ++ bt263.1 : List Int)).bind fun y267 => (if (y267.length : Int) > 0 then (if (y267.length : Int) = 0 then (none) else (if 0 ≤ (Int.tmod (wrap64 (a8)) (y267.length : Int)) then (if (Int.tmod (wrap64 (a8)) (y267.length : Int)) < (y267.length : Int) then (scullerlaw13_PackCodes.j1 kj10 l1 bt263.1 (y267.set ((Int.tmod (wrap64 (a8)) (y267.length : Int)) : Int).toNat a9) a0_0 a0_1 a0_2 a0_3 a0_4 l0_5 l0_6 t251 t252 t253 t254 t255 t256 t259) else (none)) else (none))) else (scullerlaw13_PackCodes.j1 kj10 l1 bt263.1 y267 a0_0 a0_1 a0_2 a0_3 a0_4 l0_5 l0_6 t251 t252 t253 t254 t255 t256 t259))) else (none))) = some r := H
        have A26 := Aside0.mk A260
        clear A260
        replace H := Option.bind_eq_some_iff.mp H
        obtain ⟨⟨t263, t266⟩, A270, H⟩ := H
        replace H : (if ([] : List Int).length + t263.length < 140737488355328 then ((some (([] : List Int) ++ t263 : List Int)).bind fun y267 => (if (y267.length : Int) > 0 then (if (y267.length : Int) = 0 then (none) else (if 0 ≤ (Int.tmod (wrap64 (a8)) (y267.length : Int)) then (if (Int.tmod (wrap64 (a8)) (y267.length : Int)) < (y267.length : Int) then (scullerlaw13_PackCodes.j1 kj10 l1 t263 (y267.set ((Int.tmod (wrap64 (a8)) (y267.length : Int)) : Int).toNat a9) a0_0 a0_1 a0_2 a0_3 a0_4 l0_5 l0_6 t251 t252 t253 t254 t255 t256 t259) else (none)) else (none))) else (scullerlaw13_PackCodes.j1 kj10 l1 t263 y267 a0_0 a0_1 a0_2 a0_3 a0_4 l0_5 l0_6 t251 t252 t253 t254 t255 t256 t259))) else (none)) = some r := H
        have A27 := Aside0.mk A270
        clear A270
        by_cases c28 : ([] : List Int).length + t263.length < 140737488355328
        · rw [if_pos c28] at H
          have LMc28 := Aside0.mk c28
          clear c28
          obtain ⟨y267, hy267⟩ : ∃ y_ : List Int, y_ = (([] : List Int) ++ t263) := ⟨_, rfl⟩
          replace H : (if (y267.length : Int) > 0 then (if (y267.length : Int) = 0 then (none) else (if 0 ≤ (Int.tmod (wrap64 (a8)) (y267.length : Int)) then (if (Int.tmod (wrap64 (a8)) (y267.length : Int)) < (y267.length : Int) then (scullerlaw13_PackCodes.j1 kj10 l1 t263 (y267.set ((Int.tmod (wrap64 (a8)) (y267.length : Int)) : Int).toNat a9) a0_0 a0_1 a0_2 a0_3 a0_4 l0_5 l0_6 t251 t252 t253 t254 t255 t256 t259) else (none)) else (none))) else (scullerlaw13_PackCodes.j1 kj10 l1 t263 y267 a0_0 a0_1 a0_2 a0_3 a0_4 l0_5 l0_6 t251 t252 t253 t254 t255 t256 t259)) = some r := by first | (rw [hy267]; with_reducible exact H) | (have H2_ := (Option.bind_some _ _).symm.trans H; rw [hy267]; with_reducible exact H2_) | (have H2_ := (Option.bind_some _ _).symm.trans H; with_reducible exact H2_) | with_reducible exact H | (rw [hy267]; exact H) | exact H
          have Ny267 := Aside0.mk hy267
          clear hy267
          have HC29 := Aside0.mk H
          clear H
          go_upto_if 68 with (first | ((with_reducible refine gate_callee (f := 32) rfl ?_); refine goesL_ (some 57) rfl rfl Try.func32 (by kernel_rfl) rfl #[.int .u64 a2, .int .u32 a3, .int .u16 a4, .int .u16 a5, .slice A6 l6.length c6, .int .u8 a7] rfl (by (try simp only [List.map_toArray, List.map_cons, List.map_nil]); first | done | rfl | (simp only [List.length_drop, List.length_take]; rfl)) ?_; (with_reducible refine (scullerlaw13_Gram.calls kj10 a2 a3 a4 a5 (fun k_ => k_ < w.heap.size) _ _ l6 a7 t251 t252 t253 t254 t255 t256 t259 _ ?side1 A26.out).mono ?_); (case side1 => exact Kd.V_mk HC6.out (Kd.F_below (Kd.C_F (Kd.heap_int .u8) HR6.out) (by repeat (first | (with_reducible first | exact HB.out | apply below_alloc | apply pw_below_drewN | apply below_drew1 | refine below_set ?_ GE248.out) | exact HB.out)))); rintro e w30 ⟨v257, v260, rfl, ho0, ho1, hb⟩; refine ⟨_, rfl, ?_⟩; have n0_ := Aside0.mk (Kd.R_lower (Kd.R_mono (ok' := fun k_ => True) ho0 (fun _ hk_ => trivial)) (below_size (by repeat (first | (with_reducible first | exact HB.out | apply below_alloc | apply pw_below_drewN | apply below_drew1 | refine below_set ?_ GE248.out) | exact HB.out)))); have n1_ := Aside0.mk (Kd.R_lower (Kd.R_mono (ok' := fun k_ => True) ho1 (fun _ hk_ => trivial)) (below_size (by repeat (first | (with_reducible first | exact HB.out | apply below_alloc | apply pw_below_drewN | apply below_drew1 | refine below_set ?_ GE248.out) | exact HB.out)))); have n2_ := Aside0.mk (blk_below (g := gb248) (o := .cells #[.int .i64 a0_0, .int .u64 a0_1, .int .i64 a0_2, .int .i64 a0_3, .int .u32 a0_4, .slice A0_5 l0_5.length c0_5, .slice A0_6 l0_6.length c0_6] 56 (0, 0)) (Far.Ba BK248.out) hb); have n3_ := Aside0.mk (below_step (by repeat (first | (with_reducible first | exact HB.out | apply below_alloc | apply pw_below_drewN | apply below_drew1 | refine below_set ?_ GE248.out) | exact HB.out)) hb); clear BK248 HB; have HO258 := n0_; have HO261 := n1_; have BK248 := n2_; have HB := n3_; clear n0_ n1_ n2_ n3_; (try clear hb); (try clear hb2); (try clear hk); (try clear hi); (try clear ho0); (try clear ho1)) | ((with_reducible refine gate_dst (N := 21) rfl ?_); (try (refine gate_guard (by rfl) ?_; dsimp only)); refine box_event ?hg (N := 21) ?hd (cs := #[.int .i64 0, .int .u64 0, .int .i64 0, .int .i64 0, .int .u32 0, .slice none 0 0, .slice none 0 0]) (t := 56) ?hr ?_; (case hd => rfl); (case hg => rfl); (case hr => first | (go_simp; done) | (go_simp; rfl)); intro gb262 hg w31 hbox hb; have n0_ := Aside0.mk (Kd.R_below (Far.Ra HO258.out) hb); have n1_ := Aside0.mk (Kd.R_below (Far.Ra HO261.out) hb); have n2_ := Aside0.mk (blk_below (g := gb248) (o := .cells #[.int .i64 a0_0, .int .u64 a0_1, .int .i64 a0_2, .int .i64 a0_3, .int .u32 a0_4, .slice A0_5 l0_5.length c0_5, .slice A0_6 l0_6.length c0_6] 56 (0, 0)) (Far.Ba BK248.out) hb); have n3_ := Aside0.mk (below_step (by repeat (first | (with_reducible first | exact HB.out | apply below_alloc | apply pw_below_drewN | apply below_drew1 | refine below_set ?_ GE248.out) | exact HB.out)) hb); have n4_ := Aside0.mk (hbox); have n5_ := Aside0.mk ((by rw [hg]; exact (below_size (by repeat (first | (with_reducible first | exact HB.out | apply below_alloc | apply pw_below_drewN | apply below_drew1 | refine below_set ?_ GE248.out) | exact HB.out))) : w.heap.size ≤ gb262)); have n6_ := Aside0.mk ((by rw [hg]; exact (below_size (by repeat (first | (with_reducible first | exact HB.out | apply below_alloc | apply pw_below_drewN | apply below_drew1 | refine below_set ?_ GE248.out) | exact HB.out))) : w.heap.size ≤ gb262)); have n7_ := Aside0.mk ((by rw [hg]; exact Nat.ne_of_lt (blk_lt (g := gb248) (o := .cells #[.int .i64 a0_0, .int .u64 a0_1, .int .i64 a0_2, .int .i64 a0_3, .int .u32 a0_4, .slice A0_5 l0_5.length c0_5, .slice A0_6 l0_6.length c0_6] 56 (0, 0)) (Far.Ba BK248.out)) : gb248 ≠ gb262)); have n8_ := Aside0.mk ((by rw [hg]; exact Nat.ne_of_gt (blk_lt (g := gb248) (o := .cells #[.int .i64 a0_0, .int .u64 a0_1, .int .i64 a0_2, .int .i64 a0_3, .int .u32 a0_4, .slice A0_5 l0_5.length c0_5, .slice A0_6 l0_6.length c0_6] 56 (0, 0)) (Far.Ba BK248.out)) : gb262 ≠ gb248)); clear HO258 HO261 BK248 HB; have HO258 := n0_; have HO261 := n1_; have BK248 := n2_; have HB := n3_; have BK262 := n4_; have GW262 := n5_; have GE262 := n6_; have NB248_262 := n7_; have NB262_248 := n8_; clear n0_ n1_ n2_ n3_ n4_ n5_ n6_ n7_ n8_; clear hb hbox hg; have hnb32 := NB262_248.out; have hnc32 := NB248_262.out; have hcz33_0 : w31.cell? ⟨gb262, 0, none⟩ = some (.int .i64 0) := (blk_cell BK262.out 0).trans rfl; have hcz33_1 : w31.cell? ⟨gb262, 1, none⟩ = some (.int .u64 0) := (blk_cell BK262.out 1).trans rfl; have hcz33_2 : w31.cell? ⟨gb262, 2, none⟩ = some (.int .i64 0) := (blk_cell BK262.out 2).trans rfl; have hcz33_3 : w31.cell? ⟨gb262, 3, none⟩ = some (.int .i64 0) := (blk_cell BK262.out 3).trans rfl; have hcz33_4 : w31.cell? ⟨gb262, 4, none⟩ = some (.int .u32 0) := (blk_cell BK262.out 4).trans rfl; have hcz33_5 : w31.cell? ⟨gb262, 5, none⟩ = some (.slice none 0 0) := (blk_cell BK262.out 5).trans rfl; have hcz33_6 : w31.cell? ⟨gb262, 6, none⟩ = some (.slice none 0 0) := (blk_cell BK262.out 6).trans rfl; have hfz33_0 := blk_frozen BK262.out 0; have hfz33_1 := blk_frozen BK262.out 1; have hfz33_2 := blk_frozen BK262.out 2; have hfz33_3 := blk_frozen BK262.out 3; have hfz33_4 := blk_frozen BK262.out 4; have hfz33_5 := blk_frozen BK262.out 5; have hfz33_6 := blk_frozen BK262.out 6; obtain ⟨Ao34, co34, eo34⟩ := Kd.R_slice HO258.out; subst eo34; obtain ⟨Ao35, co35, eo35⟩ := Kd.R_slice HO261.out; subst eo35) | ((with_reducible refine gate_callee (f := 33) rfl ?_); refine goesL_ (some 60) rfl rfl Try.func33 (by kernel_rfl) rfl #[.agg #[.int .i64 t251, .int .u64 t252, .int .i64 t253, .int .i64 t254, .int .u32 t255, .slice Ao34 t256.length co34, .slice Ao35 t259.length co35]] rfl (by (try simp only [List.map_toArray, List.map_cons, List.map_nil]); first | done | rfl | (simp only [List.length_drop, List.length_take]; rfl)) ?_; (with_reducible refine (scullerref13_Encode.calls kj10 t251 t252 t253 t254 t255 _ _ t256 _ _ t259 t263 t266 _ ?side1 ?side2 ?side3 ?side4 A27.out).mono ?_); (case side1 => refine (Kd.R_reads' (e := 3) (base := w.heap.size) (ok := fun k_ => True) (n := t256.length) (c := co34) ?_).2.2; exact (Far.Ra (Far.far7 HO258.out BK262.out (by decide) (.int .i64 t251) (.int .u64 t252) (.int .i64 t253) (.int .i64 t254) (.int .u32 t255) (.slice Ao34 t256.length co34) (.slice Ao35 t259.length co35)))); (case side2 => exact (Kd.R_reads' HO258.out).2.1); (case side3 => refine (Kd.R_reads' (e := 5) (base := w.heap.size) (ok := fun k_ => True) (n := t259.length) (c := co35) ?_).2.2; exact (Far.Ra (Far.far7 HO261.out BK262.out (by decide) (.int .i64 t251) (.int .u64 t252) (.int .i64 t253) (.int .i64 t254) (.int .u32 t255) (.slice Ao34 t256.length co34) (.slice Ao35 t259.length co35)))); (case side4 => exact (Kd.R_reads' HO261.out).2.1); rintro e w36 ⟨v264, rfl, ho0, hb⟩; refine ⟨_, rfl, ?_⟩; have n0_ := Aside0.mk (Kd.R_below (Far.Ra (Far.far7 HO258.out BK262.out (by decide) (.int .i64 t251) (.int .u64 t252) (.int .i64 t253) (.int .i64 t254) (.int .u32 t255) (.slice Ao34 t256.length co34) (.slice Ao35 t259.length co35))) hb); have n1_ := Aside0.mk (Kd.R_elder' (Far.Ra (Far.far7 HO261.out BK262.out (by decide) (.int .i64 t251) (.int .u64 t252) (.int .i64 t253) (.int .i64 t254) (.int .u32 t255) (.slice Ao34 t256.length co34) (.slice Ao35 t259.length co35))) (Kd.R_base ho0) hb); have n2_ := Aside0.mk (Kd.R_lower (Kd.R_new' ho0 (Kd.R_lt (Far.Ra (Far.far7 HO261.out BK262.out (by decide) (.int .i64 t251) (.int .u64 t252) (.int .i64 t253) (.int .i64 t254) (.int .u32 t255) (.slice Ao34 t256.length co34) (.slice Ao35 t259.length co35))))) (below_size (by repeat (first | (with_reducible first | exact HB.out | apply below_alloc | apply pw_below_drewN | apply below_drew1 | refine below_set ?_ GE248.out | refine below_set ?_ GE262.out) | exact HB.out)))); have n3_ := Aside0.mk (blk_below (g := gb248) (o := .cells #[.int .i64 a0_0, .int .u64 a0_1, .int .i64 a0_2, .int .i64 a0_3, .int .u32 a0_4, .slice A0_5 l0_5.length c0_5, .slice A0_6 l0_6.length c0_6] 56 (0, 0)) (by (with_reducible repeat (first | refine blk_drewN ?_ _ | refine blk_drew ?_ | refine blk_alloc ?_ _)); refine blk_far ?_ NB248_262.out _; (with_reducible repeat (first | refine blk_drewN ?_ _ | refine blk_drew ?_ | refine blk_alloc ?_ _)); refine blk_far ?_ NB248_262.out _; (with_reducible repeat (first | refine blk_drewN ?_ _ | refine blk_drew ?_ | refine blk_alloc ?_ _)); refine blk_far ?_ NB248_262.out _; (with_reducible repeat (first | refine blk_drewN ?_ _ | refine blk_drew ?_ | refine blk_alloc ?_ _)); refine blk_far ?_ NB248_262.out _; (with_reducible repeat (first | refine blk_drewN ?_ _ | refine blk_drew ?_ | refine blk_alloc ?_ _)); refine blk_far ?_ NB248_262.out _; (with_reducible repeat (first | refine blk_drewN ?_ _ | refine blk_drew ?_ | refine blk_alloc ?_ _)); refine blk_far ?_ NB248_262.out _; (with_reducible repeat (first | refine blk_drewN ?_ _ | refine blk_drew ?_ | refine blk_alloc ?_ _)); refine blk_far ?_ NB248_262.out _; (with_reducible repeat (first | refine blk_drewN ?_ _ | refine blk_drew ?_ | refine blk_alloc ?_ _)); exact BK248.out) hb); have n4_ := Aside0.mk (blk_below (g := gb262) (o := .cells #[.int .i64 t251, .int .u64 t252, .int .i64 t253, .int .i64 t254, .int .u32 t255, .slice Ao34 t256.length co34, .slice Ao35 t259.length co35] 56 (0, 0)) (by (with_reducible repeat (first | refine blk_drewN ?_ _ | refine blk_drew ?_ | refine blk_alloc ?_ _)); refine blk_put (cs := #[.int .i64 t251, .int .u64 t252, .int .i64 t253, .int .i64 t254, .int .u32 t255, .slice Ao34 t256.length co34, .slice none 0 0]) ?_ 6 _ rfl; (with_reducible repeat (first | refine blk_drewN ?_ _ | refine blk_drew ?_ | refine blk_alloc ?_ _)); refine blk_put (cs := #[.int .i64 t251, .int .u64 t252, .int .i64 t253, .int .i64 t254, .int .u32 t255, .slice none 0 0, .slice none 0 0]) ?_ 5 _ rfl; (with_reducible repeat (first | refine blk_drewN ?_ _ | refine blk_drew ?_ | refine blk_alloc ?_ _)); refine blk_put (cs := #[.int .i64 t251, .int .u64 t252, .int .i64 t253, .int .i64 t254, .int .u32 0, .slice none 0 0, .slice none 0 0]) ?_ 4 _ rfl; (with_reducible repeat (first | refine blk_drewN ?_ _ | refine blk_drew ?_ | refine blk_alloc ?_ _)); refine blk_put (cs := #[.int .i64 t251, .int .u64 t252, .int .i64 t253, .int .i64 0, .int .u32 0, .slice none 0 0, .slice none 0 0]) ?_ 3 _ rfl; (with_reducible repeat (first | refine blk_drewN ?_ _ | refine blk_drew ?_ | refine blk_alloc ?_ _)); refine blk_put (cs := #[.int .i64 t251, .int .u64 t252, .int .i64 0, .int .i64 0, .int .u32 0, .slice none 0 0, .slice none 0 0]) ?_ 2 _ rfl; (with_reducible repeat (first | refine blk_drewN ?_ _ | refine blk_drew ?_ | refine blk_alloc ?_ _)); refine blk_put (cs := #[.int .i64 t251, .int .u64 0, .int .i64 0, .int .i64 0, .int .u32 0, .slice none 0 0, .slice none 0 0]) ?_ 1 _ rfl; (with_reducible repeat (first | refine blk_drewN ?_ _ | refine blk_drew ?_ | refine blk_alloc ?_ _)); refine blk_put (cs := #[.int .i64 0, .int .u64 0, .int .i64 0, .int .i64 0, .int .u32 0, .slice none 0 0, .slice none 0 0]) ?_ 0 _ rfl; (with_reducible repeat (first | refine blk_drewN ?_ _ | refine blk_drew ?_ | refine blk_alloc ?_ _)); exact BK262.out) hb); have n5_ := Aside0.mk (below_step (by repeat (first | (with_reducible first | exact HB.out | apply below_alloc | apply pw_below_drewN | apply below_drew1 | refine below_set ?_ GE248.out | refine below_set ?_ GE262.out) | exact HB.out)) hb); clear HO258 HO261 BK248 BK262 HB; have HO258 := n0_; have HO261 := n1_; have HO265 := n2_; have BK248 := n3_; have BK262 := n4_; have HB := n5_; clear n0_ n1_ n2_ n3_ n4_ n5_; (try clear hb); (try clear hb2); (try clear hk); (try clear hi); (try clear ho0); obtain ⟨Ao38, co38, eo38⟩ := Kd.R_slice HO265.out; subst eo38) | ((with_reducible refine gate_builtin (b := .append) (xs := #[.tmp 63, .tmp 64]) rfl ?_); (try (refine gate_guard (by rfl) ?_; dsimp only)); at_builtin; refine Kd.R_append_rows (Kd.int .u8) (w0 := w) w.heap.size rfl (.tmp 63) (.tmp 64) 22 5 (.int .u8 0) 1 rfl Try.underlying22 info5 rfl (by decide) (by omega) (.slice none 0 0) ([] : List Int) t263 _ _ _ (fun k_ => some k_ ≠ (.slice Ao35 t259.length co35 : Value).ownBlock ∧ some k_ ≠ (.slice Ao38 t263.length co38 : Value).ownBlock) (fun _ => False) rfl rfl ?aO ?aR (fun _ _ h => h) (fun _ h => h.elim) ?aF ?aB ?aS ?aL ?_; (case aR => repeat (first | exact (Kd.R_reads' HO265.out).2.2 | (with_reducible refine Kd.C_alloc ?_ _) | (with_reducible refine Kd.C_drewN ?_ _) | (with_reducible refine Kd.C_drew ?_))); (case aB => exact (by repeat (first | (with_reducible first | exact HB.out | apply below_alloc | apply pw_below_drewN | apply below_drew1 | refine below_set ?_ GE248.out | refine below_set ?_ GE262.out) | exact HB.out))); (case aF => exact (fun k_ hk => ⟨Kd.fresh' (Kd.R_lt (Far.Ra HO261.out)) k_ hk, Kd.fresh' (Kd.R_lt (Far.Ra HO265.out)) k_ hk⟩)); (case aO => exact ((Kd.R_nil _ _ _ _ (fun k_ => some k_ ≠ (.slice Ao35 t259.length co35 : Value).ownBlock ∧ some k_ ≠ (.slice Ao38 t263.length co38 : Value).ownBlock)))); (case aS => exact (below_size (by repeat (first | (with_reducible first | exact HB.out | apply below_alloc | apply pw_below_drewN | apply below_drew1 | refine below_set ?_ GE248.out | refine below_set ?_ GE262.out) | exact HB.out)))); (case aL => have := LMc28.out; omega); intro v268 w37 ho hb hg hat; rw [← Ny267.out] at ho; have n0_ := Aside0.mk (blk_grown (g := gb248) (o := .cells #[.int .i64 a0_0, .int .u64 a0_1, .int .i64 a0_2, .int .i64 a0_3, .int .u32 a0_4, .slice A0_5 l0_5.length c0_5, .slice A0_6 l0_6.length c0_6] 56 (0, 0)) (Far.Ba BK248.out) hg (by simp [Value.ownBlock])); have n1_ := Aside0.mk (Kd.R_grown (Far.Ra HO258.out) hg (fun _ _ => by simp [Value.ownBlock])); have n2_ := Aside0.mk (Kd.R_after (Kd.R_apart_nil (Far.Ra HO261.out)) hg hat); have n3_ := Aside0.mk (blk_grown (g := gb262) (o := .cells #[.int .i64 t251, .int .u64 t252, .int .i64 t253, .int .i64 t254, .int .u32 t255, .slice Ao34 t256.length co34, .slice Ao35 t259.length co35] 56 (0, 0)) (Far.Ba BK262.out) hg (by simp [Value.ownBlock])); have n4_ := Aside0.mk (Kd.R_after (Kd.R_apart_nil (Far.Ra HO265.out)) hg hat); have n5_ := Aside0.mk (hb); have n6_ := Aside0.mk (ho); clear BK248 HO258 HO261 BK262 HO265 HB; have BK248 := n0_; have HO258 := n1_; have HO261 := n2_; have BK262 := n3_; have HO265 := n4_; have HB := n5_; have HO269 := n6_; clear n0_ n1_ n2_ n3_ n4_ n5_ n6_; clear ho hb hg hat; obtain ⟨Ao39, co39, eo39⟩ := Kd.R_slice HO269.out; subst eo39))
          (try simp only [Act.put, List.setIfInBounds_toArray, List.set_cons_zero, List.set_cons_succ])
          go_cut [] (fun wc => ∃ (kq : Nat) (x24_28 : List Int), Aside0 (scullerlaw13_PackCodes.j1 kq l1 t263 x24_28 a0_0 a0_1 a0_2 a0_3 a0_4 l0_5 l0_6 t251 t252 t253 t254 t255 t256 t259 = some r) ∧ Aside0 (kq ≤ kj10) ∧ Aside0 (Kd.R (Kd.int .u8) 5 wc w.heap.size (fun k_ => some k_ ≠ ((.slice Ao39 y267.length co39) : Value).ownBlock ∧ some k_ ≠ ((.slice Ao35 t259.length co35) : Value).ownBlock) (.slice Ao38 t263.length co38) t263) ∧ Aside0 (Kd.R (Kd.int .u8) 5 wc w.heap.size (fun k_ => some k_ ≠ ((.slice Ao38 t263.length co38) : Value).ownBlock ∧ some k_ ≠ ((.slice Ao35 t259.length co35) : Value).ownBlock) (.slice Ao39 y267.length co39) x24_28) ∧ Aside0 (Kd.R (Kd.int .i64) 3 wc w.heap.size (fun _ => True) (.slice Ao34 t256.length co34) t256) ∧ Aside0 (Kd.R (Kd.int .u8) 5 wc w.heap.size (fun k_ => some k_ ≠ ((.slice Ao38 t263.length co38) : Value).ownBlock ∧ some k_ ≠ ((.slice Ao39 y267.length co39) : Value).ownBlock) (.slice Ao35 t259.length co35) t259) ∧ Aside0 (wc.heap[gb248]? = some (.cells #[.int .i64 a0_0, .int .u64 a0_1, .int .i64 a0_2, .int .i64 a0_3, .int .u32 a0_4, (.slice A0_5 l0_5.length c0_5), (.slice A0_6 l0_6.length c0_6)] 56 (0, 0))) ∧ Aside0 (wc.heap[gb262]? = some (.cells #[.int .i64 t251, .int .u64 t252, .int .i64 t253, .int .i64 t254, .int .u32 t255, (.slice Ao34 t256.length co34), (.slice Ao35 t259.length co35)] 56 (0, 0))) ∧ Aside0 (Below w.heap.size w wc))
          case first =>
            have H := HC29.out
            clear HC29
            by_cases c40 : (y267.length : Int) > 0
            · rw [if_pos c40] at H
              have c40b0 : decide (0 < (y267.length : Int)) = true := decide_eq_true c40
              have c40b1 : decide (0 < y267.length) = true := decide_eq_true (by omega)
              clear c40
              (first | rw [c40b0] | rw [c40b1] | (simp only [i64_w, i32_w]; rw [c40b0]) | skip)
              by_cases c41 : (y267.length : Int) = 0
              · rw [if_pos c41] at H
                exact absurd H (by simp)
              · rw [if_neg c41] at H
                have c41b0 : ((y267.length : Int) == 0) = false := beq_eq_false_iff_ne.mpr c41
                have c41b1 : ((y267.length : Int) != 0) = true := bne_iff_ne.mpr c41
                have c41b2 : ¬ (y267 = []) := fun h_ => c41 (by rw [h_]; rfl)
                obtain ⟨ji42, hji42⟩ : ∃ j_ : Int, (Int.tmod (wrap64 (a8)) (y267.length : Int)) = j_ := ⟨_, rfl⟩
                replace H : (if 0 ≤ (ji42) then (if (ji42) < (y267.length : Int) then (scullerlaw13_PackCodes.j1 kj10 l1 t263 (y267.set ((ji42) : Int).toNat a9) a0_0 a0_1 a0_2 a0_3 a0_4 l0_5 l0_6 t251 t252 t253 t254 t255 t256 t259) else (none)) else (none)) = some r := by first | (rw [hji42] at H; exact H) | (simp only [hji42] at H ⊢; exact H)
                by_cases c43 : 0 ≤ (ji42)
                · rw [if_pos c43] at H
                  have c43b0 : decide (0 ≤ (ji42)) = true := decide_eq_true c43
                  clear c43
                  by_cases c44 : (ji42) < (y267.length : Int)
                  · rw [if_pos c44] at H
                    have c44b0 : decide ((ji42) < (y267.length : Int)) = true := decide_eq_true c44
                    clear c44
                    obtain ⟨y270, hy270⟩ : ∃ y_ : List Int, y_ = (y267.set ((ji42) : Int).toNat a9) := ⟨_, rfl⟩
                    replace H : (scullerlaw13_PackCodes.j1 kj10 l1 t263 y270 a0_0 a0_1 a0_2 a0_3 a0_4 l0_5 l0_6 t251 t252 t253 t254 t255 t256 t259) = some r := by first | (rw [hy270]; with_reducible exact H) | (have H2_ := (Option.bind_some _ _).symm.trans H; rw [hy270]; with_reducible exact H2_) | (have H2_ := (Option.bind_some _ _).symm.trans H; with_reducible exact H2_) | with_reducible exact H | (rw [hy270]; exact H) | exact H
                    have Ny270 := Aside0.mk hy270
                    clear hy270
                    have H' := Aside0.mk H
                    clear H
                    have p45 : 0 ≤ ((ji42) : Int) := of_decide_eq_true (by first | (with_reducible assumption) | assumption)
                    have q45 : ((ji42) : Int) < ((y267.length : Int) : Int) := of_decide_eq_true (by first | (with_reducible assumption) | assumption)
                    obtain ⟨go45, co45, eo45, gb45, gl45, cl45, HG45⟩ := Kd.R_form HO269.out (by omega)
                    (first | cases eo45 | (injection eo45 with ea_ en_ ec_; (first | subst ea_ | (injection ea_ with ea_; subst ea_)); subst ec_; clear en_))
                    have GB45 := Aside0.mk gb45
                    have GG45 := Aside0.mk HG45
                    clear gb45 gl45 HG45
                    obtain ⟨hx45_0, hf45_0⟩ := Kd.R_celln 0 HO269.out ((ji42) : Int) p45 q45
                    replace p45 := eq_true p45
                    replace q45 := eq_true q45
                    have HP46 := Kd.R_putg HO269.out ((ji42) : Int) a9
                    go_wp2_with (first | ((with_reducible refine gate_store (t := 5) (p := 76) rfl ?_); refine store_event (t := 5) (p := 76) (v := ?vo_w47) (w1 := (w37.setCell ⟨go45, ((ji42) : Int).toNat, none⟩ (.int .u8 a9))) ?hg ?ho ?hn ?hr ?_; (case ho => rfl); (case hg => rfl); (case hn => rfl); (case hr => first | (go_simp; done) | (go_simp; rfl)); intro w47 hw; have hg : w37.grownBy w47 (some go45) := (by rw [hw]; exact HP46.2); have hp_ : Kd.R (Kd.int .u8) 5 w47 w.heap.size (fun k_ => some k_ ≠ (.slice Ao35 t259.length co35 : Value).ownBlock ∧ some k_ ≠ (.slice Ao38 t263.length co38 : Value).ownBlock) (.slice (some ⟨go45, 0, none⟩) y267.length co39) y270 := (by rw [hw, Ny270.out]; exact HP46.1); clear HP46; have n0_ := Aside0.mk (blk_grown (g := gb248) (o := .cells #[.int .i64 a0_0, .int .u64 a0_1, .int .i64 a0_2, .int .i64 a0_3, .int .u32 a0_4, .slice A0_5 l0_5.length c0_5, .slice A0_6 l0_6.length c0_6] 56 (0, 0)) (Far.Ba BK248.out) hg (Kd.R_ne HO269.out BK248.out (by decide))); have n1_ := Aside0.mk (Kd.R_over' (v := (.slice (some ⟨go45, 0, none⟩) y267.length co39)) (Far.Ra HO258.out) (Kd.R_typed HO269.out) (by decide) hg); have n2_ := Aside0.mk (Kd.R_after (v := (.slice (some ⟨go45, 0, none⟩) y267.length co39)) (v1 := (.slice (some ⟨go45, 0, none⟩) y267.length co39)) (ok := (fun k_ => some k_ ≠ (.slice Ao38 t263.length co38 : Value).ownBlock)) (Far.Ra (Kd.R_mono HO261.out (fun _ hk => ⟨hk.1.2, hk.2⟩))) hg (.inl rfl)); have n3_ := Aside0.mk (blk_grown (g := gb262) (o := .cells #[.int .i64 t251, .int .u64 t252, .int .i64 t253, .int .i64 t254, .int .u32 t255, .slice Ao34 t256.length co34, .slice Ao35 t259.length co35] 56 (0, 0)) (Far.Ba BK262.out) hg (Kd.R_ne HO269.out BK262.out (by decide))); have n4_ := Aside0.mk (Kd.R_after (v := (.slice (some ⟨go45, 0, none⟩) y267.length co39)) (v1 := (.slice (some ⟨go45, 0, none⟩) y267.length co39)) (ok := (fun k_ => some k_ ≠ (.slice Ao35 t259.length co35 : Value).ownBlock)) (Far.Ra (Kd.R_mono HO265.out (fun _ hk => ⟨hk.1.2, hk.2⟩))) hg (.inl rfl)); have n5_ := Aside0.mk (hp_); have n6_ := Aside0.mk ((by rw [hw]; exact below_set (HB.out) GB45.out : Below w.heap.size w w47)); clear BK248 HO258 HO261 BK262 HO265 HO269 HB; have BK248 := n0_; have HO258 := n1_; have HO261 := n2_; have BK262 := n3_; have HO265 := n4_; have HO269 := n5_; have HB := n6_; clear n0_ n1_ n2_ n3_ n4_ n5_ n6_; clear hg hw hp_))
                    go_meet
                    case rel => exact ⟨_, (y270), H', ⟨by have := HJ10.out; first | omega | exact Nat.le_refl _⟩, ⟨by (with_reducible repeat (first | apply Kd.R_alloc | apply Kd.R_drewN | apply Kd.R_drew)); exact Kd.R_mono HO265.out (fun _ hk => ⟨hk.2, hk.1⟩)⟩, ⟨by (with_reducible repeat (first | apply Kd.R_alloc | apply Kd.R_drewN | apply Kd.R_drew)); exact Kd.R_mono HO269.out (fun _ hk => ⟨hk.2, hk.1⟩)⟩, ⟨by (with_reducible repeat (first | apply Kd.R_alloc | apply Kd.R_drewN | apply Kd.R_drew)); exact HO258.out⟩, ⟨by (with_reducible repeat (first | apply Kd.R_alloc | apply Kd.R_drewN | apply Kd.R_drew)); exact HO261.out⟩, ⟨by (with_reducible repeat (first | refine blk_drewN ?_ _ | refine blk_drew ?_ | refine blk_alloc ?_ _)); exact BK248.out⟩, ⟨by (with_reducible repeat (first | refine blk_drewN ?_ _ | refine blk_drew ?_ | refine blk_alloc ?_ _)); exact BK262.out⟩, ⟨by repeat (first | (with_reducible first | exact HB.out | apply below_alloc | apply pw_below_drewN | apply below_drew1 | refine below_set ?_ GE248.out | refine below_set ?_ GE262.out) | exact HB.out)⟩⟩
                  · rw [if_neg c44] at H
                    exact absurd H (by simp)
                · rw [if_neg c43] at H
                  exact absurd H (by simp)
            · rw [if_neg c40] at H
              have c40b0 : decide (0 < (y267.length : Int)) = false := decide_eq_false c40
              have c40b1 : decide (0 < y267.length) = false := decide_eq_false (by omega)
              clear c40
              (first | rw [c40b0] | rw [c40b1] | (simp only [i64_w, i32_w]; rw [c40b0]) | skip)
              have H' := Aside0.mk H
              clear H
              go_wp2
              go_meet
              case rel => exact ⟨_, (y267), H', ⟨by have := HJ10.out; first | omega | exact Nat.le_refl _⟩, ⟨by (with_reducible repeat (first | apply Kd.R_alloc | apply Kd.R_drewN | apply Kd.R_drew)); exact Kd.R_mono HO265.out (fun _ hk => ⟨hk.2, hk.1.2⟩)⟩, ⟨by (with_reducible repeat (first | apply Kd.R_alloc | apply Kd.R_drewN | apply Kd.R_drew)); exact Kd.R_mono HO269.out (fun _ hk => ⟨hk.2, hk.1⟩)⟩, ⟨by (with_reducible repeat (first | apply Kd.R_alloc | apply Kd.R_drewN | apply Kd.R_drew)); exact HO258.out⟩, ⟨by (with_reducible repeat (first | apply Kd.R_alloc | apply Kd.R_drewN | apply Kd.R_drew)); exact Kd.R_mono HO261.out (fun _ hk => ⟨hk.1.2, hk.2⟩)⟩, ⟨by (with_reducible repeat (first | refine blk_drewN ?_ _ | refine blk_drew ?_ | refine blk_alloc ?_ _)); exact BK248.out⟩, ⟨by (with_reducible repeat (first | refine blk_drewN ?_ _ | refine blk_drew ?_ | refine blk_alloc ?_ _)); exact BK262.out⟩, ⟨by repeat (first | (with_reducible first | exact HB.out | apply below_alloc | apply pw_below_drewN | apply below_drew1 | refine below_set ?_ GE248.out | refine below_set ?_ GE262.out) | exact HB.out)⟩⟩
          case rest =>
            clear HC29; (try clear c1); (try clear c2); (try clear p2); (try clear c3); (try clear c4); (try clear p4); (try clear q4); (try clear hx4); (try clear c6); (try clear p6); (try clear c7); (try clear c13); (try clear c13b0); (try clear c13b1); (try clear c14); (try clear c14b0); (try clear c14b1); (try clear c16); (try clear c16b0); (try clear c16b1); (try clear c18); (try clear c18b0); (try clear c18b1); (try clear c23); (try clear c28); (try clear c31); (try clear c32); (try clear c33); (try clear c40); (try clear c40b0); (try clear c40b1); (try clear c41); (try clear c41b0); (try clear c41b1); (try clear c41b2); (try clear c43); (try clear c43b0); (try clear c44); (try clear c44b0); (try clear p45); (try clear q45); (try clear hx45); (try clear hf45); (try clear hcz15_0); (try clear hcz15_1); (try clear hcz15_2); (try clear hcz15_3); (try clear hcz15_4); (try clear hcz15_5); (try clear hcz15_6); (try clear hcz17_0); (try clear hcz17_1); (try clear hcz17_2); (try clear hcz17_3); (try clear hcz17_4); (try clear hcz17_5); (try clear hcz17_6); (try clear hcz19_0); (try clear hcz19_1); (try clear hcz19_2); (try clear hcz19_3); (try clear hcz19_4); (try clear hcz19_5); (try clear hcz19_6); (try clear hcz21_0); (try clear hcz21_1); (try clear hcz21_2); (try clear hcz21_3); (try clear hcz21_4); (try clear hcz21_5); (try clear hcz21_6); (try clear hcz33_0); (try clear hcz33_1); (try clear hcz33_2); (try clear hcz33_3); (try clear hcz33_4); (try clear hcz33_5); (try clear hcz33_6); (try clear hfz15_0); (try clear hfz15_1); (try clear hfz15_2); (try clear hfz15_3); (try clear hfz15_4); (try clear hfz15_5); (try clear hfz15_6); (try clear hfz17_0); (try clear hfz17_1); (try clear hfz17_2); (try clear hfz17_3); (try clear hfz17_4); (try clear hfz17_5); (try clear hfz17_6); (try clear hfz19_0); (try clear hfz19_1); (try clear hfz19_2); (try clear hfz19_3); (try clear hfz19_4); (try clear hfz19_5); (try clear hfz19_6); (try clear hfz21_0); (try clear hfz21_1); (try clear hfz21_2); (try clear hfz21_3); (try clear hfz21_4); (try clear hfz21_5); (try clear hfz21_6); (try clear hfz33_0); (try clear hfz33_1); (try clear hfz33_2); (try clear hfz33_3); (try clear hfz33_4); (try clear hfz33_5); (try clear hfz33_6); (try clear hx45_0); (try clear p2); (try clear p45); (try clear q45)
            obtain ⟨kq, x24_28, HA, HJ28, HO_22, HO_24, HO_263005, HO_263006, BK248, BK262, HB⟩ := hcut
            have hl24_28 := (Kd.R_reads' HO_24.out).1
            rw [hl24_28] at HO_24
            (try simp only [hl24_28])
            (try simp only [hl24_28] at BK248)
            (try simp only [hl24_28] at BK262)
            (try simp only [hl24_28] at HO_22)
            (try simp only [hl24_28] at HO_263005)
            (try simp only [hl24_28] at HO_263006)
            cases kq with
            | zero => exact absurd HA.out (by simp [scullerlaw13_PackCodes.j1])
            | succ kj28 =>
              have H := HA.out
              clear HA
              simp only [scullerlaw13_PackCodes.j1] at H
              obtain ⟨ji48, hji48⟩ : ∃ j_ : Int, (mx (wrap64 ((x24_28.length : Int) - 4)) 0) = j_ := ⟨_, rfl⟩
              replace H : (if 0 ≤ (ji48) then (if (ji48) ≤ (x24_28.length : Int) then ((some (x24_28.take ((ji48) : Int).toNat : List Int)).bind fun y271 => (if ([] : List Int).length + y271.length < 140737488355328 then ((scullerlaw13_encodes.f kj28 a0_0 a0_1 a0_2 a0_3 a0_4 l0_5 l0_6).bind fun t278 => (if t278 = true then ((scullerlaw13_encodes.f kj28 t251 t252 t253 t254 t255 t256 t259).bind fun t279 => (if t279 = true then ((scullerlaw13_parses.f kj28 l1).bind fun t280 => (if t280 = true then ((scullerlaw13_parses.f kj28 t263).bind fun t281 => (if t281 = true then ((scullerlaw13_parses.f kj28 x24_28).bind fun t282 => (if t282 = true then ((scullerref02_Seal.f kj28 (([] : List Int) ++ y271)).bind fun t283 => ((scullerlaw13_parses.f kj28 t283).bind fun t286 => (if t286 = true then ((scullerref02_Seal.f kj28 l1).bind fun t287 => ((scullerlaw13_parses.f kj28 t287).bind fun t290 => (if t290 = true then ((pack_Same.f kj28 a0_0 a0_1 a0_2 a0_3 a0_4 l0_5 l0_6 t251 t252 t253 t254 t255 t256 t259).bind fun t291 => ((scullerref13_Same.f kj28 a0_0 a0_1 a0_2 a0_3 a0_4 l0_5 l0_6 t251 t252 t253 t254 t255 t256 t259).bind fun t292 => (if (t291 == t292) = true then ((pack_Same.f kj28 t251 t252 t253 t254 t255 t256 t259 t251 t252 t253 t254 t255 t256 t259).bind fun t293 => (some t293)) else (some false)))) else (some false)))) else (some false)))) else (some false))) else (some false))) else (some false))) else (some false))) else (some false))) else (none))) else (none)) else (none)) = some r := by first | (rw [hji48] at H; exact H) | (simp only [hji48] at H ⊢; exact H)
              have hji48_ : (if (wrap64 ((x24_28.length : Int) - 4)) < 0 then 0 else (wrap64 ((x24_28.length : Int) - 4))) = ji48 := hji48
              by_cases c49 : 0 ≤ (ji48)
              · rw [if_pos c49] at H
                have c49b0 := eq_true c49
                have c49b1 : decide (0 ≤ (ji48)) = true := decide_eq_true c49
                clear c49
                by_cases c50 : (ji48) ≤ (x24_28.length : Int)
                · rw [if_pos c50] at H
                  have c50b0 := eq_true c50
                  have c50b1 : decide ((ji48) ≤ (x24_28.length : Int)) = true := decide_eq_true c50
                  (try simp only [hl24_28] at c50b1)
                  clear c50
                  obtain ⟨y271, hy271⟩ : ∃ y_ : List Int, y_ = (x24_28.take ((ji48) : Int).toNat) := ⟨_, rfl⟩
                  replace H : (if ([] : List Int).length + y271.length < 140737488355328 then ((scullerlaw13_encodes.f kj28 a0_0 a0_1 a0_2 a0_3 a0_4 l0_5 l0_6).bind fun t278 => (if t278 = true then ((scullerlaw13_encodes.f kj28 t251 t252 t253 t254 t255 t256 t259).bind fun t279 => (if t279 = true then ((scullerlaw13_parses.f kj28 l1).bind fun t280 => (if t280 = true then ((scullerlaw13_parses.f kj28 t263).bind fun t281 => (if t281 = true then ((scullerlaw13_parses.f kj28 x24_28).bind fun t282 => (if t282 = true then ((scullerref02_Seal.f kj28 (([] : List Int) ++ y271)).bind fun t283 => ((scullerlaw13_parses.f kj28 t283).bind fun t286 => (if t286 = true then ((scullerref02_Seal.f kj28 l1).bind fun t287 => ((scullerlaw13_parses.f kj28 t287).bind fun t290 => (if t290 = true then ((pack_Same.f kj28 a0_0 a0_1 a0_2 a0_3 a0_4 l0_5 l0_6 t251 t252 t253 t254 t255 t256 t259).bind fun t291 => ((scullerref13_Same.f kj28 a0_0 a0_1 a0_2 a0_3 a0_4 l0_5 l0_6 t251 t252 t253 t254 t255 t256 t259).bind fun t292 => (if (t291 == t292) = true then ((pack_Same.f kj28 t251 t252 t253 t254 t255 t256 t259 t251 t252 t253 t254 t255 t256 t259).bind fun t293 => (some t293)) else (some false)))) else (some false)))) else (some false)))) else (some false))) else (some false))) else (some false))) else (some false))) else (some false))) else (none)) = some r := by first | (rw [hy271]; with_reducible exact H) | (have H2_ := (Option.bind_some _ _).symm.trans H; rw [hy271]; with_reducible exact H2_) | (have H2_ := (Option.bind_some _ _).symm.trans H; with_reducible exact H2_) | with_reducible exact H | (rw [hy271]; exact H) | exact H
                  have Ny271 := Aside0.mk hy271
                  clear hy271
                  by_cases c51 : ([] : List Int).length + y271.length < 140737488355328
                  · rw [if_pos c51] at H
                    have LMc51 := Aside0.mk c51
                    clear c51
                    obtain ⟨y275, hy275⟩ : ∃ y_ : List Int, y_ = (([] : List Int) ++ y271) := ⟨_, rfl⟩
                    replace H : ((scullerlaw13_encodes.f kj28 a0_0 a0_1 a0_2 a0_3 a0_4 l0_5 l0_6).bind fun t278 => (if t278 = true then ((scullerlaw13_encodes.f kj28 t251 t252 t253 t254 t255 t256 t259).bind fun t279 => (if t279 = true then ((scullerlaw13_parses.f kj28 l1).bind fun t280 => (if t280 = true then ((scullerlaw13_parses.f kj28 t263).bind fun t281 => (if t281 = true then ((scullerlaw13_parses.f kj28 x24_28).bind fun t282 => (if t282 = true then ((scullerref02_Seal.f kj28 y275).bind fun t283 => ((scullerlaw13_parses.f kj28 t283).bind fun t286 => (if t286 = true then ((scullerref02_Seal.f kj28 l1).bind fun t287 => ((scullerlaw13_parses.f kj28 t287).bind fun t290 => (if t290 = true then ((pack_Same.f kj28 a0_0 a0_1 a0_2 a0_3 a0_4 l0_5 l0_6 t251 t252 t253 t254 t255 t256 t259).bind fun t291 => ((scullerref13_Same.f kj28 a0_0 a0_1 a0_2 a0_3 a0_4 l0_5 l0_6 t251 t252 t253 t254 t255 t256 t259).bind fun t292 => (if (t291 == t292) = true then ((pack_Same.f kj28 t251 t252 t253 t254 t255 t256 t259 t251 t252 t253 t254 t255 t256 t259).bind fun t293 => (some t293)) else (some false)))) else (some false)))) else (some false)))) else (some false))) else (some false))) else (some false))) else (some false))) else (some false))) = some r := by first | (rw [hy275]; with_reducible exact H) | (have H2_ := (Option.bind_some _ _).symm.trans H; rw [hy275]; with_reducible exact H2_) | (have H2_ := (Option.bind_some _ _).symm.trans H; with_reducible exact H2_) | with_reducible exact H | (rw [hy275]; exact H) | exact H
                    have Ny275 := Aside0.mk hy275
                    clear hy275
                    replace H := Option.bind_eq_some_iff.mp H
                    obtain ⟨t278, A520, H⟩ := H
                    replace H : (if t278 = true then ((scullerlaw13_encodes.f kj28 t251 t252 t253 t254 t255 t256 t259).bind fun t279 => (if t279 = true then ((scullerlaw13_parses.f kj28 l1).bind fun t280 => (if t280 = true then ((scullerlaw13_parses.f kj28 t263).bind fun t281 => (if t281 = true then ((scullerlaw13_parses.f kj28 x24_28).bind fun t282 => (if t282 = true then ((scullerref02_Seal.f kj28 y275).bind fun t283 => ((scullerlaw13_parses.f kj28 t283).bind fun t286 => (if t286 = true then ((scullerref02_Seal.f kj28 l1).bind fun t287 => ((scullerlaw13_parses.f kj28 t287).bind fun t290 => (if t290 = true then ((pack_Same.f kj28 a0_0 a0_1 a0_2 a0_3 a0_4 l0_5 l0_6 t251 t252 t253 t254 t255 t256 t259).bind fun t291 => ((scullerref13_Same.f kj28 a0_0 a0_1 a0_2 a0_3 a0_4 l0_5 l0_6 t251 t252 t253 t254 t255 t256 t259).bind fun t292 => (if (t291 == t292) = true then ((pack_Same.f kj28 t251 t252 t253 t254 t255 t256 t259 t251 t252 t253 t254 t255 t256 t259).bind fun t293 => (some t293)) else (some false)))) else (some false)))) else (some false)))) else (some false))) else (some false))) else (some false))) else (some false))) else (some false)) = some r := H
                    have A52 := Aside0.mk A520
                    clear A520
                    by_cases c53 : t278 = true
                    · subst c53
                      have H1 : ((scullerlaw13_encodes.f kj28 t251 t252 t253 t254 t255 t256 t259).bind fun t279 => (if t279 = true then ((scullerlaw13_parses.f kj28 l1).bind fun t280 => (if t280 = true then ((scullerlaw13_parses.f kj28 t263).bind fun t281 => (if t281 = true then ((scullerlaw13_parses.f kj28 x24_28).bind fun t282 => (if t282 = true then ((scullerref02_Seal.f kj28 y275).bind fun t283 => ((scullerlaw13_parses.f kj28 t283).bind fun t286 => (if t286 = true then ((scullerref02_Seal.f kj28 l1).bind fun t287 => ((scullerlaw13_parses.f kj28 t287).bind fun t290 => (if t290 = true then ((pack_Same.f kj28 a0_0 a0_1 a0_2 a0_3 a0_4 l0_5 l0_6 t251 t252 t253 t254 t255 t256 t259).bind fun t291 => ((scullerref13_Same.f kj28 a0_0 a0_1 a0_2 a0_3 a0_4 l0_5 l0_6 t251 t252 t253 t254 t255 t256 t259).bind fun t292 => (if (t291 == t292) = true then ((pack_Same.f kj28 t251 t252 t253 t254 t255 t256 t259 t251 t252 t253 t254 t255 t256 t259).bind fun t293 => (some t293)) else (some false)))) else (some false)))) else (some false)))) else (some false))) else (some false))) else (some false))) else (some false))) = some r := by rw [if_pos rfl] at H; exact H
                      clear H
                      have H := H1
                      clear H1
                      replace H := Option.bind_eq_some_iff.mp H
                      obtain ⟨t279, A540, H⟩ := H
                      replace H : (if t279 = true then ((scullerlaw13_parses.f kj28 l1).bind fun t280 => (if t280 = true then ((scullerlaw13_parses.f kj28 t263).bind fun t281 => (if t281 = true then ((scullerlaw13_parses.f kj28 x24_28).bind fun t282 => (if t282 = true then ((scullerref02_Seal.f kj28 y275).bind fun t283 => ((scullerlaw13_parses.f kj28 t283).bind fun t286 => (if t286 = true then ((scullerref02_Seal.f kj28 l1).bind fun t287 => ((scullerlaw13_parses.f kj28 t287).bind fun t290 => (if t290 = true then ((pack_Same.f kj28 a0_0 a0_1 a0_2 a0_3 a0_4 l0_5 l0_6 t251 t252 t253 t254 t255 t256 t259).bind fun t291 => ((scullerref13_Same.f kj28 a0_0 a0_1 a0_2 a0_3 a0_4 l0_5 l0_6 t251 t252 t253 t254 t255 t256 t259).bind fun t292 => (if (t291 == t292) = true then ((pack_Same.f kj28 t251 t252 t253 t254 t255 t256 t259 t251 t252 t253 t254 t255 t256 t259).bind fun t293 => (some t293)) else (some false)))) else (some false)))) else (some false)))) else (some false))) else (some false))) else (some false))) else (some false)) = some r := H
                      have A54 := Aside0.mk A540
                      clear A540
                      by_cases c55 : t279 = true
                      · subst c55
                        have H1 : ((scullerlaw13_parses.f kj28 l1).bind fun t280 => (if t280 = true then ((scullerlaw13_parses.f kj28 t263).bind fun t281 => (if t281 = true then ((scullerlaw13_parses.f kj28 x24_28).bind fun t282 => (if t282 = true then ((scullerref02_Seal.f kj28 y275).bind fun t283 => ((scullerlaw13_parses.f kj28 t283).bind fun t286 => (if t286 = true then ((scullerref02_Seal.f kj28 l1).bind fun t287 => ((scullerlaw13_parses.f kj28 t287).bind fun t290 => (if t290 = true then ((pack_Same.f kj28 a0_0 a0_1 a0_2 a0_3 a0_4 l0_5 l0_6 t251 t252 t253 t254 t255 t256 t259).bind fun t291 => ((scullerref13_Same.f kj28 a0_0 a0_1 a0_2 a0_3 a0_4 l0_5 l0_6 t251 t252 t253 t254 t255 t256 t259).bind fun t292 => (if (t291 == t292) = true then ((pack_Same.f kj28 t251 t252 t253 t254 t255 t256 t259 t251 t252 t253 t254 t255 t256 t259).bind fun t293 => (some t293)) else (some false)))) else (some false)))) else (some false)))) else (some false))) else (some false))) else (some false))) = some r := by rw [if_pos rfl] at H; exact H
                        clear H
                        have H := H1
                        clear H1
                        replace H := Option.bind_eq_some_iff.mp H
                        obtain ⟨t280, A560, H⟩ := H
                        replace H : (if t280 = true then ((scullerlaw13_parses.f kj28 t263).bind fun t281 => (if t281 = true then ((scullerlaw13_parses.f kj28 x24_28).bind fun t282 => (if t282 = true then ((scullerref02_Seal.f kj28 y275).bind fun t283 => ((scullerlaw13_parses.f kj28 t283).bind fun t286 => (if t286 = true then ((scullerref02_Seal.f kj28 l1).bind fun t287 => ((scullerlaw13_parses.f kj28 t287).bind fun t290 => (if t290 = true then ((pack_Same.f kj28 a0_0 a0_1 a0_2 a0_3 a0_4 l0_5 l0_6 t251 t252 t253 t254 t255 t256 t259).bind fun t291 => ((scullerref13_Same.f kj28 a0_0 a0_1 a0_2 a0_3 a0_4 l0_5 l0_6 t251 t252 t253 t254 t255 t256 t259).bind fun t292 => (if (t291 == t292) = true then ((pack_Same.f kj28 t251 t252 t253 t254 t255 t256 t259 t251 t252 t253 t254 t255 t256 t259).bind fun t293 => (some t293)) else (some false)))) else (some false)))) else (some false)))) else (some false))) else (some false))) else (some false)) = some r := H
                        have A56 := Aside0.mk A560
                        clear A560
                        by_cases c57 : t280 = true
                        · subst c57
                          have H1 : ((scullerlaw13_parses.f kj28 t263).bind fun t281 => (if t281 = true then ((scullerlaw13_parses.f kj28 x24_28).bind fun t282 => (if t282 = true then ((scullerref02_Seal.f kj28 y275).bind fun t283 => ((scullerlaw13_parses.f kj28 t283).bind fun t286 => (if t286 = true then ((scullerref02_Seal.f kj28 l1).bind fun t287 => ((scullerlaw13_parses.f kj28 t287).bind fun t290 => (if t290 = true then ((pack_Same.f kj28 a0_0 a0_1 a0_2 a0_3 a0_4 l0_5 l0_6 t251 t252 t253 t254 t255 t256 t259).bind fun t291 => ((scullerref13_Same.f kj28 a0_0 a0_1 a0_2 a0_3 a0_4 l0_5 l0_6 t251 t252 t253 t254 t255 t256 t259).bind fun t292 => (if (t291 == t292) = true then ((pack_Same.f kj28 t251 t252 t253 t254 t255 t256 t259 t251 t252 t253 t254 t255 t256 t259).bind fun t293 => (some t293)) else (some false)))) else (some false)))) else (some false)))) else (some false))) else (some false))) = some r := by rw [if_pos rfl] at H; exact H
                          clear H
                          have H := H1
                          clear H1
                          replace H := Option.bind_eq_some_iff.mp H
                          obtain ⟨t281, A580, H⟩ := H
                          replace H : (if t281 = true then ((scullerlaw13_parses.f kj28 x24_28).bind fun t282 => (if t282 = true then ((scullerref02_Seal.f kj28 y275).bind fun t283 => ((scullerlaw13_parses.f kj28 t283).bind fun t286 => (if t286 = true then ((scullerref02_Seal.f kj28 l1).bind fun t287 => ((scullerlaw13_parses.f kj28 t287).bind fun t290 => (if t290 = true then ((pack_Same.f kj28 a0_0 a0_1 a0_2 a0_3 a0_4 l0_5 l0_6 t251 t252 t253 t254 t255 t256 t259).bind fun t291 => ((scullerref13_Same.f kj28 a0_0 a0_1 a0_2 a0_3 a0_4 l0_5 l0_6 t251 t252 t253 t254 t255 t256 t259).bind fun t292 => (if (t291 == t292) = true then ((pack_Same.f kj28 t251 t252 t253 t254 t255 t256 t259 t251 t252 t253 t254 t255 t256 t259).bind fun t293 => (some t293)) else (some false)))) else (some false)))) else (some false)))) else (some false))) else (some false)) = some r := H
                          have A58 := Aside0.mk A580
                          clear A580
                          by_cases c59 : t281 = true
                          · subst c59
                            have H1 : ((scullerlaw13_parses.f kj28 x24_28).bind fun t282 => (if t282 = true then ((scullerref02_Seal.f kj28 y275).bind fun t283 => ((scullerlaw13_parses.f kj28 t283).bind fun t286 => (if t286 = true then ((scullerref02_Seal.f kj28 l1).bind fun t287 => ((scullerlaw13_parses.f kj28 t287).bind fun t290 => (if t290 = true then ((pack_Same.f kj28 a0_0 a0_1 a0_2 a0_3 a0_4 l0_5 l0_6 t251 t252 t253 t254 t255 t256 t259).bind fun t291 => ((scullerref13_Same.f kj28 a0_0 a0_1 a0_2 a0_3 a0_4 l0_5 l0_6 t251 t252 t253 t254 t255 t256 t259).bind fun t292 => (if (t291 == t292) = true then ((pack_Same.f kj28 t251 t252 t253 t254 t255 t256 t259 t251 t252 t253 t254 t255 t256 t259).bind fun t293 => (some t293)) else (some false)))) else (some false)))) else (some false)))) else (some false))) = some r := by rw [if_pos rfl] at H; exact H
                            clear H
                            have H := H1
                            clear H1
                            replace H := Option.bind_eq_some_iff.mp H
                            obtain ⟨t282, A600, H⟩ := H
                            replace H : (if t282 = true then ((scullerref02_Seal.f kj28 y275).bind fun t283 => ((scullerlaw13_parses.f kj28 t283).bind fun t286 => (if t286 = true then ((scullerref02_Seal.f kj28 l1).bind fun t287 => ((scullerlaw13_parses.f kj28 t287).bind fun t290 => (if t290 = true then ((pack_Same.f kj28 a0_0 a0_1 a0_2 a0_3 a0_4 l0_5 l0_6 t251 t252 t253 t254 t255 t256 t259).bind fun t291 => ((scullerref13_Same.f kj28 a0_0 a0_1 a0_2 a0_3 a0_4 l0_5 l0_6 t251 t252 t253 t254 t255 t256 t259).bind fun t292 => (if (t291 == t292) = true then ((pack_Same.f kj28 t251 t252 t253 t254 t255 t256 t259 t251 t252 t253 t254 t255 t256 t259).bind fun t293 => (some t293)) else (some false)))) else (some false)))) else (some false)))) else (some false)) = some r := H
                            have A60 := Aside0.mk A600
                            clear A600
                            by_cases c61 : t282 = true
                            · subst c61
                              have H1 : ((scullerref02_Seal.f kj28 y275).bind fun t283 => ((scullerlaw13_parses.f kj28 t283).bind fun t286 => (if t286 = true then ((scullerref02_Seal.f kj28 l1).bind fun t287 => ((scullerlaw13_parses.f kj28 t287).bind fun t290 => (if t290 = true then ((pack_Same.f kj28 a0_0 a0_1 a0_2 a0_3 a0_4 l0_5 l0_6 t251 t252 t253 t254 t255 t256 t259).bind fun t291 => ((scullerref13_Same.f kj28 a0_0 a0_1 a0_2 a0_3 a0_4 l0_5 l0_6 t251 t252 t253 t254 t255 t256 t259).bind fun t292 => (if (t291 == t292) = true then ((pack_Same.f kj28 t251 t252 t253 t254 t255 t256 t259 t251 t252 t253 t254 t255 t256 t259).bind fun t293 => (some t293)) else (some false)))) else (some false)))) else (some false)))) = some r := by rw [if_pos rfl] at H; exact H
                              clear H
                              have H := H1
                              clear H1
                              replace H := Option.bind_eq_some_iff.mp H
                              obtain ⟨t283, A620, H⟩ := H
                              replace H : ((scullerlaw13_parses.f kj28 t283).bind fun t286 => (if t286 = true then ((scullerref02_Seal.f kj28 l1).bind fun t287 => ((scullerlaw13_parses.f kj28 t287).bind fun t290 => (if t290 = true then ((pack_Same.f kj28 a0_0 a0_1 a0_2 a0_3 a0_4 l0_5 l0_6 t251 t252 t253 t254 t255 t256 t259).bind fun t291 => ((scullerref13_Same.f kj28 a0_0 a0_1 a0_2 a0_3 a0_4 l0_5 l0_6 t251 t252 t253 t254 t255 t256 t259).bind fun t292 => (if (t291 == t292) = true then ((pack_Same.f kj28 t251 t252 t253 t254 t255 t256 t259 t251 t252 t253 t254 t255 t256 t259).bind fun t293 => (some t293)) else (some false)))) else (some false)))) else (some false))) = some r := H
                              have A62 := Aside0.mk A620
                              clear A620
                              replace H := Option.bind_eq_some_iff.mp H
                              obtain ⟨t286, A630, H⟩ := H
                              replace H : (if t286 = true then ((scullerref02_Seal.f kj28 l1).bind fun t287 => ((scullerlaw13_parses.f kj28 t287).bind fun t290 => (if t290 = true then ((pack_Same.f kj28 a0_0 a0_1 a0_2 a0_3 a0_4 l0_5 l0_6 t251 t252 t253 t254 t255 t256 t259).bind fun t291 => ((scullerref13_Same.f kj28 a0_0 a0_1 a0_2 a0_3 a0_4 l0_5 l0_6 t251 t252 t253 t254 t255 t256 t259).bind fun t292 => (if (t291 == t292) = true then ((pack_Same.f kj28 t251 t252 t253 t254 t255 t256 t259 t251 t252 t253 t254 t255 t256 t259).bind fun t293 => (some t293)) else (some false)))) else (some false)))) else (some false)) = some r := H
                              have A63 := Aside0.mk A630
                              clear A630
                              by_cases c64 : t286 = true
                              · subst c64
                                have H1 : ((scullerref02_Seal.f kj28 l1).bind fun t287 => ((scullerlaw13_parses.f kj28 t287).bind fun t290 => (if t290 = true then ((pack_Same.f kj28 a0_0 a0_1 a0_2 a0_3 a0_4 l0_5 l0_6 t251 t252 t253 t254 t255 t256 t259).bind fun t291 => ((scullerref13_Same.f kj28 a0_0 a0_1 a0_2 a0_3 a0_4 l0_5 l0_6 t251 t252 t253 t254 t255 t256 t259).bind fun t292 => (if (t291 == t292) = true then ((pack_Same.f kj28 t251 t252 t253 t254 t255 t256 t259 t251 t252 t253 t254 t255 t256 t259).bind fun t293 => (some t293)) else (some false)))) else (some false)))) = some r := by rw [if_pos rfl] at H; exact H
                                clear H
                                have H := H1
                                clear H1
                                replace H := Option.bind_eq_some_iff.mp H
                                obtain ⟨t287, A650, H⟩ := H
                                replace H : ((scullerlaw13_parses.f kj28 t287).bind fun t290 => (if t290 = true then ((pack_Same.f kj28 a0_0 a0_1 a0_2 a0_3 a0_4 l0_5 l0_6 t251 t252 t253 t254 t255 t256 t259).bind fun t291 => ((scullerref13_Same.f kj28 a0_0 a0_1 a0_2 a0_3 a0_4 l0_5 l0_6 t251 t252 t253 t254 t255 t256 t259).bind fun t292 => (if (t291 == t292) = true then ((pack_Same.f kj28 t251 t252 t253 t254 t255 t256 t259 t251 t252 t253 t254 t255 t256 t259).bind fun t293 => (some t293)) else (some false)))) else (some false))) = some r := H
                                have A65 := Aside0.mk A650
                                clear A650
                                replace H := Option.bind_eq_some_iff.mp H
                                obtain ⟨t290, A660, H⟩ := H
                                replace H : (if t290 = true then ((pack_Same.f kj28 a0_0 a0_1 a0_2 a0_3 a0_4 l0_5 l0_6 t251 t252 t253 t254 t255 t256 t259).bind fun t291 => ((scullerref13_Same.f kj28 a0_0 a0_1 a0_2 a0_3 a0_4 l0_5 l0_6 t251 t252 t253 t254 t255 t256 t259).bind fun t292 => (if (t291 == t292) = true then ((pack_Same.f kj28 t251 t252 t253 t254 t255 t256 t259 t251 t252 t253 t254 t255 t256 t259).bind fun t293 => (some t293)) else (some false)))) else (some false)) = some r := H
                                have A66 := Aside0.mk A660
                                clear A660
                                by_cases c67 : t290 = true
                                · subst c67
                                  have H1 : ((pack_Same.f kj28 a0_0 a0_1 a0_2 a0_3 a0_4 l0_5 l0_6 t251 t252 t253 t254 t255 t256 t259).bind fun t291 => ((scullerref13_Same.f kj28 a0_0 a0_1 a0_2 a0_3 a0_4 l0_5 l0_6 t251 t252 t253 t254 t255 t256 t259).bind fun t292 => (if (t291 == t292) = true then ((pack_Same.f kj28 t251 t252 t253 t254 t255 t256 t259 t251 t252 t253 t254 t255 t256 t259).bind fun t293 => (some t293)) else (some false)))) = some r := by rw [if_pos rfl] at H; exact H
                                  clear H
                                  have H := H1
                                  clear H1
                                  replace H := Option.bind_eq_some_iff.mp H
                                  obtain ⟨t291, A680, H⟩ := H
                                  replace H : ((scullerref13_Same.f kj28 a0_0 a0_1 a0_2 a0_3 a0_4 l0_5 l0_6 t251 t252 t253 t254 t255 t256 t259).bind fun t292 => (if (t291 == t292) = true then ((pack_Same.f kj28 t251 t252 t253 t254 t255 t256 t259 t251 t252 t253 t254 t255 t256 t259).bind fun t293 => (some t293)) else (some false))) = some r := H
                                  have A68 := Aside0.mk A680
                                  clear A680
                                  replace H := Option.bind_eq_some_iff.mp H
                                  obtain ⟨t292, A690, H⟩ := H
                                  replace H : (if (t291 == t292) = true then ((pack_Same.f kj28 t251 t252 t253 t254 t255 t256 t259 t251 t252 t253 t254 t255 t256 t259).bind fun t293 => (some t293)) else (some false)) = some r := H
                                  have A69 := Aside0.mk A690
                                  clear A690
                                  by_cases c70 : (t291 == t292) = true
                                  · rw [if_pos c70] at H
                                    have c70b0 : (t291 == t292) = true := c70
                                    (try (have c70b1 : decide (t291 = t292) = true := by simpa using c70))
                                    (try (have c70b2 : (t291 == t292) = true := by simpa using c70))
                                    clear c70
                                    replace H := Option.bind_eq_some_iff.mp H
                                    obtain ⟨t293, A710, H⟩ := H
                                    replace H : (some t293) = some r := H
                                    have A71 := Aside0.mk A710
                                    clear A710
                                    obtain rfl := Option.some.inj H
                                    have q72 : ((ji48) : Int) ≤ ((x24_28.length : Int) : Int) := of_decide_eq_true (by first | (with_reducible assumption) | assumption)
                                    obtain ⟨i072, hi072, _, hsz72, _⟩ := info_parts info5
                                    have hroom72 : x24_28.length ≤ co39 := (Kd.R_reads' HO_24.out).2.1
                                    have hC72 : Kd.C (Kd.int .u8) _ Ao39 x24_28.length x24_28 := (Kd.R_reads' HO_24.out).2.2
                                    have hcut72 := cut_to (P := Try.prog) 22 5 .i64 Try.underlying22 hi072 Ao39 x24_28.length co39 (ji48) (of_decide_eq_true (by first | (with_reducible assumption) | assumption)) q72 hroom72
                                    have hr72 := Kd.C_take (m := ((ji48) : Int).toNat) hC72 (by omega)
                                    have hy72 : y271.length = ((ji48) : Int).toNat := (by rw [Ny271.out, List.length_take]; omega)
                                    rw [← Ny271.out] at hr72
                                    rw [← hy72] at hcut72
                                    have HR274 := Aside0.mk hr72
                                    have HC274 := Aside0.mk (show y271.length ≤ co39 from by omega)
                                    clear hr72 hC72 hroom72 hi072 hsz72
                                    have KY72 := Aside0.mk hy72
                                    clear hy72
                                    have KL72 := Aside0.mk (show ((ji48) : Int).toNat ≤ x24_28.length from by omega)
                                    replace q72 := eq_true q72
                                    try go_wp2_with (first | ((with_reducible refine gate_builtin (b := .append) (xs := #[.tmp 77, .tmp 83]) rfl ?_); (try (refine gate_guard (by rfl) ?_; dsimp only)); at_builtin; refine Kd.R_append_rows (Kd.int .u8) (w0 := w) w.heap.size rfl (.tmp 77) (.tmp 83) 22 5 (.int .u8 0) 1 rfl Try.underlying22 info5 rfl (by decide) (by omega) (.slice none 0 0) ([] : List Int) y271 _ _ _ (fun k_ => some k_ ≠ (.slice Ao38 t263.length co38 : Value).ownBlock ∧ some k_ ≠ (.slice Ao39 x24_28.length co39 : Value).ownBlock ∧ some k_ ≠ (.slice Ao35 t259.length co35 : Value).ownBlock) (fun _ => False) rfl rfl ?aO ?aR (fun _ _ h => h) (fun _ h => h.elim) ?aF ?aB ?aS ?aL ?_; (case aR => repeat (first | exact (by repeat (first | (with_reducible exact HR274.out) | (with_reducible refine Kd.C_alloc ?_ _) | (with_reducible refine Kd.C_drewN ?_ _) | (with_reducible refine Kd.C_drew ?_) | exact HR274.out)) | (with_reducible refine Kd.C_alloc ?_ _) | (with_reducible refine Kd.C_drewN ?_ _) | (with_reducible refine Kd.C_drew ?_))); (case aB => exact (by repeat (first | (with_reducible first | exact HB.out | apply below_alloc | apply pw_below_drewN | apply below_drew1 | refine below_set ?_ GE248.out | refine below_set ?_ GE262.out) | exact HB.out))); (case aF => exact (fun k_ hk => ⟨Kd.fresh' (Kd.R_lt (Far.Ra HO_22.out)) k_ hk, Kd.fresh' (Kd.R_lt (Far.Ra HO_24.out)) k_ hk, Kd.fresh' (Kd.R_lt (Far.Ra HO_263006.out)) k_ hk⟩)); (case aO => exact ((Kd.R_nil _ _ _ _ (fun k_ => some k_ ≠ (.slice Ao38 t263.length co38 : Value).ownBlock ∧ some k_ ≠ (.slice Ao39 x24_28.length co39 : Value).ownBlock ∧ some k_ ≠ (.slice Ao35 t259.length co35 : Value).ownBlock)))); (case aS => exact (below_size (by repeat (first | (with_reducible first | exact HB.out | apply below_alloc | apply pw_below_drewN | apply below_drew1 | refine below_set ?_ GE248.out | refine below_set ?_ GE262.out) | exact HB.out)))); (case aL => have := LMc51.out; omega); intro v276 w73 ho hb hg hat; rw [← Ny275.out] at ho; have n0_ := Aside0.mk (Kd.R_after (Kd.R_apart_nil (Far.Ra HO_22.out)) hg hat); have n1_ := Aside0.mk (Kd.R_after (Kd.R_apart_nil (Far.Ra HO_24.out)) hg hat); have n2_ := Aside0.mk (Kd.R_grown (Far.Ra HO_263005.out) hg (fun _ _ => by simp [Value.ownBlock])); have n3_ := Aside0.mk (Kd.R_after (Kd.R_apart_nil (Far.Ra HO_263006.out)) hg hat); have n4_ := Aside0.mk (blk_grown (g := gb248) (o := .cells #[.int .i64 a0_0, .int .u64 a0_1, .int .i64 a0_2, .int .i64 a0_3, .int .u32 a0_4, .slice A0_5 l0_5.length c0_5, .slice A0_6 l0_6.length c0_6] 56 (0, 0)) (Far.Ba BK248.out) hg (by simp [Value.ownBlock])); have n5_ := Aside0.mk (blk_grown (g := gb262) (o := .cells #[.int .i64 t251, .int .u64 t252, .int .i64 t253, .int .i64 t254, .int .u32 t255, .slice Ao34 t256.length co34, .slice Ao35 t259.length co35] 56 (0, 0)) (Far.Ba BK262.out) hg (by simp [Value.ownBlock])); have n6_ := Aside0.mk (hb); have n7_ := Aside0.mk ((show Kd.C (Kd.int .u8) w73 Ao39 y271.length y271 from by rw [Ny271.out]; exact Kd.C_take (m := ((ji48) : Int).toNat) ((Kd.R_reads' (Kd.R_after (Kd.R_apart_nil (Far.Ra HO_24.out)) hg hat)).2.2) KL72.out)); have n8_ := Aside0.mk (ho); clear HO_22 HO_24 HO_263005 HO_263006 BK248 BK262 HB HR274; have HO_22 := n0_; have HO_24 := n1_; have HO_263005 := n2_; have HO_263006 := n3_; have BK248 := n4_; have BK262 := n5_; have HB := n6_; have HR274 := n7_; have HO277 := n8_; clear n0_ n1_ n2_ n3_ n4_ n5_ n6_ n7_ n8_; clear ho hb hg hat))
                                    have n0_ := Aside0.mk (Kd.R_drew HO_22.out)
                                    have n1_ := Aside0.mk (Kd.R_drew HO_24.out)
                                    have n2_ := Aside0.mk (Kd.R_drew HO_263005.out)
                                    have n3_ := Aside0.mk (Kd.R_drew HO_263006.out)
                                    have n4_ := Aside0.mk (Kd.R_drew HO277.out)
                                    have n5_ := Aside0.mk (blk_drew BK248.out)
                                    have n6_ := Aside0.mk (blk_drew BK262.out)
                                    have n7_ := Aside0.mk (Kd.C_drew HR274.out)
                                    have n8_ := Aside0.mk (below_drew1 HB.out)
                                    clear HO_22 HO_24 HO_263005 HO_263006 HO277 BK248 BK262 HR274 HB
                                    have HO_22 := n0_
                                    have HO_24 := n1_
                                    have HO_263005 := n2_
                                    have HO_263006 := n3_
                                    have HO277 := n4_
                                    have BK248 := n5_
                                    have BK262 := n6_
                                    have HR274 := n7_
                                    have HB := n8_
                                    clear n0_ n1_ n2_ n3_ n4_ n5_ n6_ n7_ n8_
                                    refine start_ (n := 43) (S := fun w' => w'.cell? ⟨gb248, 0, none⟩ = some (.int .i64 a0_0) ∧ w'.cell? ⟨gb248, 1, none⟩ = some (.int .u64 a0_1) ∧ w'.cell? ⟨gb248, 2, none⟩ = some (.int .i64 a0_2) ∧ w'.cell? ⟨gb248, 3, none⟩ = some (.int .i64 a0_3) ∧ w'.cell? ⟨gb248, 4, none⟩ = some (.int .u32 a0_4) ∧ w'.cell? ⟨gb248, 5, none⟩ = some (.slice A0_5 l0_5.length c0_5) ∧ w'.cell? ⟨gb248, 6, none⟩ = some (.slice A0_6 l0_6.length c0_6) ∧ w'.cell? ⟨gb262, 0, none⟩ = some (.int .i64 t251) ∧ w'.cell? ⟨gb262, 1, none⟩ = some (.int .u64 t252) ∧ w'.cell? ⟨gb262, 2, none⟩ = some (.int .i64 t253) ∧ w'.cell? ⟨gb262, 3, none⟩ = some (.int .i64 t254) ∧ w'.cell? ⟨gb262, 4, none⟩ = some (.int .u32 t255) ∧ w'.cell? ⟨gb262, 5, none⟩ = some (.slice Ao34 t256.length co34) ∧ w'.cell? ⟨gb262, 6, none⟩ = some (.slice Ao35 t259.length co35)) (ds := []) #[false, false, false, false, false, false, false, false, false, false, false, false, false, false, false, false, false, false, false, false, false, false, false, false, false, false, false, false, false, false, false, false, false, false, false, false, false, false, false, false, false, false, false] (by kernel_rfl) rfl rfl ⟨(blk_cell BK248.out 0).trans rfl, (blk_cell BK248.out 1).trans rfl, (blk_cell BK248.out 2).trans rfl, (blk_cell BK248.out 3).trans rfl, (blk_cell BK248.out 4).trans rfl, (blk_cell BK248.out 5).trans rfl, (blk_cell BK248.out 6).trans rfl, (blk_cell BK262.out 0).trans rfl, (blk_cell BK262.out 1).trans rfl, (blk_cell BK262.out 2).trans rfl, (blk_cell BK262.out 3).trans rfl, (blk_cell BK262.out 4).trans rfl, (blk_cell BK262.out 5).trans rfl, (blk_cell BK262.out 6).trans rfl⟩ (fun hHeld => ?_); refine with_tabW scullerlaw13_PackCodes.tab11 scullerlaw13_PackCodes.bits11 (fun HT_ HW_ => ?_)
                                    generalize w73.drew = w74 at HO_22 HO_24 HO_263005 HO_263006 HO277 BK248 BK262 HR274 HB hHeld ⊢
                                    refine take_ (i := 0) (N := some 85) (v := ?_) (a' := ?_) #[true, false, false, false, false, false, false, false, false, false, false, false, false, false, false, false, false, false, false, false, false, false, false, false, false, false, false, false, false, false, false, false, false, false, false, false, false, false, false, false, false, false, false] rfl rfl (take_ofW HT_.out HW_.out (by kernel_rfl)) (fun _ _ _ h => h) (Or.inl ⟨by rfl, ?_⟩) hHeld ?_ ?_; rotate_left; (rintro w' ⟨s0, s1, s2, s3, s4, s5, s6, s7, s8, s9, s10, s11, s12, s13⟩; go_simp; with_reducible rfl); rotate_left; (simp only [Act.put, List.setIfInBounds_toArray, List.set_cons_zero, List.set_cons_succ, i64_w, i32_w]; rfl)
                                    refine one_ (i := 1) (N := some 86) #[true, true, false, false, false, false, false, false, false, false, false, false, false, false, false, false, false, false, false, false, false, false, false, false, false, false, false, false, false, false, false, false, false, false, false, false, false, false, false, false, false, false, false] rfl rfl (one_of HT_.out (by kernel_rfl)) (by decide) (fun K hK => ?_)
                                    refine goes_ Try.func34 (by kernel_rfl) rfl #[.agg #[.int .i64 a0_0, .int .u64 a0_1, .int .i64 a0_2, .int .i64 a0_3, .int .u32 a0_4, .slice A0_5 l0_5.length c0_5, .slice A0_6 l0_6.length c0_6]] (by rfl) rfl rfl (by (try simp only [List.map_toArray, List.map_cons, List.map_nil]); first | done | rfl | (simp only [List.length_drop, List.length_take]; rfl) | (simp only [KY72.out]; done) | (simp only [KY72.out]; rfl)) ?_
                                    with_reducible refine (scullerlaw13_encodes.calls kj28 a0_0 a0_1 a0_2 a0_3 a0_4 _ _ l0_5 _ _ l0_6 true _ ?side1 ?side2 ?side3 ?side4 A52.out).mono ?_
                                    (case side1 => repeat (first | exact (Kd.C_below HR0_5.out HB.out) | (with_reducible refine Kd.C_alloc ?_ _) | (with_reducible refine Kd.C_drewN ?_ _) | (with_reducible refine Kd.C_drew ?_)))
                                    (case side2 => exact HC0_5.out)
                                    (case side3 => repeat (first | exact (Kd.C_below HR0_6.out HB.out) | (with_reducible refine Kd.C_alloc ?_ _) | (with_reducible refine Kd.C_drewN ?_ _) | (with_reducible refine Kd.C_drew ?_)))
                                    (case side4 => exact HC0_6.out)
                                    rintro e w75 ⟨rfl, hb⟩
                                    refine ⟨_, rfl, ?_⟩
                                    have n0_ := Aside0.mk (Kd.R_below (Far.Ra HO_22.out) hb)
                                    have n1_ := Aside0.mk (Kd.R_below (Far.Ra HO_24.out) hb)
                                    have n2_ := Aside0.mk (Kd.R_below (Far.Ra HO_263005.out) hb)
                                    have n3_ := Aside0.mk (Kd.R_below (Far.Ra HO_263006.out) hb)
                                    have n4_ := Aside0.mk (Kd.R_below (Far.Ra HO277.out) hb)
                                    have n5_ := Aside0.mk (blk_below (g := gb248) (o := .cells #[.int .i64 a0_0, .int .u64 a0_1, .int .i64 a0_2, .int .i64 a0_3, .int .u32 a0_4, .slice A0_5 l0_5.length c0_5, .slice A0_6 l0_6.length c0_6] 56 (0, 0)) (Far.Ba BK248.out) hb)
                                    have n6_ := Aside0.mk (blk_below (g := gb262) (o := .cells #[.int .i64 t251, .int .u64 t252, .int .i64 t253, .int .i64 t254, .int .u32 t255, .slice Ao34 t256.length co34, .slice Ao35 t259.length co35] 56 (0, 0)) (Far.Ba BK262.out) hb)
                                    have n7_ := Aside0.mk (Kd.C_below (by repeat (first | (with_reducible exact HR274.out) | (with_reducible refine Kd.C_alloc ?_ _) | (with_reducible refine Kd.C_drewN ?_ _) | (with_reducible refine Kd.C_drew ?_) | exact HR274.out)) hb)
                                    have n8_ := Aside0.mk (below_step (by repeat (first | (with_reducible first | exact HB.out | apply below_alloc | apply pw_below_drewN | apply below_drew1 | refine below_set ?_ GE248.out | refine below_set ?_ GE262.out) | exact HB.out)) hb)
                                    clear HO_22 HO_24 HO_263005 HO_263006 HO277 BK248 BK262 HR274 HB
                                    have HO_22 := n0_
                                    have HO_24 := n1_
                                    have HO_263005 := n2_
                                    have HO_263006 := n3_
                                    have HO277 := n4_
                                    have BK248 := n5_
                                    have BK262 := n6_
                                    have HR274 := n7_
                                    have HB := n8_
                                    clear n0_ n1_ n2_ n3_ n4_ n5_ n6_ n7_ n8_
                                    (try clear hb)
                                    (try clear hb2)
                                    (try clear hk)
                                    (try clear hi)
                                    refine hK.out _ _ ⟨(blk_cell BK248.out 0).trans rfl, (blk_cell BK248.out 1).trans rfl, (blk_cell BK248.out 2).trans rfl, (blk_cell BK248.out 3).trans rfl, (blk_cell BK248.out 4).trans rfl, (blk_cell BK248.out 5).trans rfl, (blk_cell BK248.out 6).trans rfl, (blk_cell BK262.out 0).trans rfl, (blk_cell BK262.out 1).trans rfl, (blk_cell BK262.out 2).trans rfl, (blk_cell BK262.out 3).trans rfl, (blk_cell BK262.out 4).trans rfl, (blk_cell BK262.out 5).trans rfl, (blk_cell BK262.out 6).trans rfl⟩ (fun hHeld => ?_)
                                    clear hK K
                                    refine norm_ (a' := ?_) ?_ ?_
                                    rotate_left
                                    · show Act.put _ (some 86) _ = _
                                      simp only [Act.put, List.setIfInBounds_toArray, List.set_cons_zero, List.set_cons_succ, i64_w, i32_w]
                                      rfl
                                    refine pure_ (i := 2) (N := some 87) (v := ?_) (a' := ?_) #[true, true, true, false, false, false, false, false, false, false, false, false, false, false, false, false, false, false, false, false, false, false, false, false, false, false, false, false, false, false, false, false, false, false, false, false, false, false, false, false, false, false, false] rfl rfl (any_of HT_.out (by kernel_rfl)) (fun _ _ _ h => h) (Or.inl ⟨by rfl, ?_⟩) ?_ ?_; rotate_left; (intro w'; go_simp; with_reducible rfl); rotate_left; (simp only [Act.put, List.setIfInBounds_toArray, List.set_cons_zero, List.set_cons_succ, i64_w, i32_w]; rfl)
                                    refine take_ (i := 3) (N := some 88) (v := ?_) (a' := ?_) #[true, true, true, true, false, false, false, false, false, false, false, false, false, false, false, false, false, false, false, false, false, false, false, false, false, false, false, false, false, false, false, false, false, false, false, false, false, false, false, false, false, false, false] rfl rfl (take_ofW HT_.out HW_.out (by kernel_rfl)) (fun _ _ _ h => h) (Or.inl ⟨by rfl, ?_⟩) hHeld ?_ ?_; rotate_left; (rintro w' ⟨s0, s1, s2, s3, s4, s5, s6, s7, s8, s9, s10, s11, s12, s13⟩; go_simp; with_reducible rfl); rotate_left; (simp only [Act.put, List.setIfInBounds_toArray, List.set_cons_zero, List.set_cons_succ, i64_w, i32_w]; rfl)
                                    refine one_ (i := 4) (N := some 89) #[true, true, true, true, true, false, false, false, false, false, false, false, false, false, false, false, false, false, false, false, false, false, false, false, false, false, false, false, false, false, false, false, false, false, false, false, false, false, false, false, false, false, false] rfl rfl (one_of HT_.out (by kernel_rfl)) (by decide) (fun K hK => ?_)
                                    refine goes_ Try.func34 (by kernel_rfl) rfl #[.agg #[.int .i64 t251, .int .u64 t252, .int .i64 t253, .int .i64 t254, .int .u32 t255, .slice Ao34 t256.length co34, .slice Ao35 t259.length co35]] (by rfl) rfl rfl (by (try simp only [List.map_toArray, List.map_cons, List.map_nil]); first | done | rfl | (simp only [List.length_drop, List.length_take]; rfl) | (simp only [KY72.out]; done) | (simp only [KY72.out]; rfl)) ?_
                                    with_reducible refine (scullerlaw13_encodes.calls kj28 t251 t252 t253 t254 t255 _ _ t256 _ _ t259 true _ ?side1 ?side2 ?side3 ?side4 A54.out).mono ?_
                                    (case side1 => repeat (first | exact (Kd.R_reads' HO_263005.out).2.2 | (with_reducible refine Kd.C_alloc ?_ _) | (with_reducible refine Kd.C_drewN ?_ _) | (with_reducible refine Kd.C_drew ?_)))
                                    (case side2 => exact (Kd.R_reads' HO_263005.out).2.1)
                                    (case side3 => repeat (first | exact (Kd.R_reads' HO_263006.out).2.2 | (with_reducible refine Kd.C_alloc ?_ _) | (with_reducible refine Kd.C_drewN ?_ _) | (with_reducible refine Kd.C_drew ?_)))
                                    (case side4 => exact (Kd.R_reads' HO_263006.out).2.1)
                                    rintro e w76 ⟨rfl, hb⟩
                                    refine ⟨_, rfl, ?_⟩
                                    have n0_ := Aside0.mk (Kd.R_below (Far.Ra HO_22.out) hb)
                                    have n1_ := Aside0.mk (Kd.R_below (Far.Ra HO_24.out) hb)
                                    have n2_ := Aside0.mk (Kd.R_below (Far.Ra HO_263005.out) hb)
                                    have n3_ := Aside0.mk (Kd.R_below (Far.Ra HO_263006.out) hb)
                                    have n4_ := Aside0.mk (Kd.R_below (Far.Ra HO277.out) hb)
                                    have n5_ := Aside0.mk (blk_below (g := gb248) (o := .cells #[.int .i64 a0_0, .int .u64 a0_1, .int .i64 a0_2, .int .i64 a0_3, .int .u32 a0_4, .slice A0_5 l0_5.length c0_5, .slice A0_6 l0_6.length c0_6] 56 (0, 0)) (Far.Ba BK248.out) hb)
                                    have n6_ := Aside0.mk (blk_below (g := gb262) (o := .cells #[.int .i64 t251, .int .u64 t252, .int .i64 t253, .int .i64 t254, .int .u32 t255, .slice Ao34 t256.length co34, .slice Ao35 t259.length co35] 56 (0, 0)) (Far.Ba BK262.out) hb)
                                    have n7_ := Aside0.mk (Kd.C_below (by repeat (first | (with_reducible exact HR274.out) | (with_reducible refine Kd.C_alloc ?_ _) | (with_reducible refine Kd.C_drewN ?_ _) | (with_reducible refine Kd.C_drew ?_) | exact HR274.out)) hb)
                                    have n8_ := Aside0.mk (below_step (by repeat (first | (with_reducible first | exact HB.out | apply below_alloc | apply pw_below_drewN | apply below_drew1 | refine below_set ?_ GE248.out | refine below_set ?_ GE262.out) | exact HB.out)) hb)
                                    clear HO_22 HO_24 HO_263005 HO_263006 HO277 BK248 BK262 HR274 HB
                                    have HO_22 := n0_
                                    have HO_24 := n1_
                                    have HO_263005 := n2_
                                    have HO_263006 := n3_
                                    have HO277 := n4_
                                    have BK248 := n5_
                                    have BK262 := n6_
                                    have HR274 := n7_
                                    have HB := n8_
                                    clear n0_ n1_ n2_ n3_ n4_ n5_ n6_ n7_ n8_
                                    (try clear hb)
                                    (try clear hb2)
                                    (try clear hk)
                                    (try clear hi)
                                    refine hK.out _ _ ⟨(blk_cell BK248.out 0).trans rfl, (blk_cell BK248.out 1).trans rfl, (blk_cell BK248.out 2).trans rfl, (blk_cell BK248.out 3).trans rfl, (blk_cell BK248.out 4).trans rfl, (blk_cell BK248.out 5).trans rfl, (blk_cell BK248.out 6).trans rfl, (blk_cell BK262.out 0).trans rfl, (blk_cell BK262.out 1).trans rfl, (blk_cell BK262.out 2).trans rfl, (blk_cell BK262.out 3).trans rfl, (blk_cell BK262.out 4).trans rfl, (blk_cell BK262.out 5).trans rfl, (blk_cell BK262.out 6).trans rfl⟩ (fun hHeld => ?_)
                                    clear hK K
                                    refine norm_ (a' := ?_) ?_ ?_
                                    rotate_left
                                    · show Act.put _ (some 89) _ = _
                                      simp only [Act.put, List.setIfInBounds_toArray, List.set_cons_zero, List.set_cons_succ, i64_w, i32_w]
                                      rfl
                                    refine pure_ (i := 5) (N := some 90) (v := ?_) (a' := ?_) #[true, true, true, true, true, true, false, false, false, false, false, false, false, false, false, false, false, false, false, false, false, false, false, false, false, false, false, false, false, false, false, false, false, false, false, false, false, false, false, false, false, false, false] rfl rfl (any_of HT_.out (by kernel_rfl)) (fun _ _ _ h => h) (Or.inl ⟨by rfl, ?_⟩) ?_ ?_; rotate_left; (intro w'; go_simp; with_reducible rfl); rotate_left; (simp only [Act.put, List.setIfInBounds_toArray, List.set_cons_zero, List.set_cons_succ, i64_w, i32_w]; rfl)
                                    refine pure_ (i := 6) (N := some 91) (v := ?_) (a' := ?_) #[true, true, true, true, true, true, true, false, false, false, false, false, false, false, false, false, false, false, false, false, false, false, false, false, false, false, false, false, false, false, false, false, false, false, false, false, false, false, false, false, false, false, false] rfl rfl (any_of HT_.out (by kernel_rfl)) (fun _ _ _ h => h) (Or.inl ⟨by rfl, ?_⟩) ?_ ?_; rotate_left; (intro w'; go_simp; with_reducible rfl); rotate_left; (simp only [Act.put, List.setIfInBounds_toArray, List.set_cons_zero, List.set_cons_succ, i64_w, i32_w]; rfl)
                                    refine pure_ (i := 7) (N := some 92) (v := ?_) (a' := ?_) #[true, true, true, true, true, true, true, true, false, false, false, false, false, false, false, false, false, false, false, false, false, false, false, false, false, false, false, false, false, false, false, false, false, false, false, false, false, false, false, false, false, false, false] rfl rfl (any_of HT_.out (by kernel_rfl)) (fun _ _ _ h => h) (Or.inl ⟨by rfl, ?_⟩) ?_ ?_; rotate_left; (intro w'; go_simp; with_reducible rfl); rotate_left; (simp only [Act.put, List.setIfInBounds_toArray, List.set_cons_zero, List.set_cons_succ, i64_w, i32_w]; rfl)
                                    refine one_ (i := 8) (N := some 93) #[true, true, true, true, true, true, true, true, true, false, false, false, false, false, false, false, false, false, false, false, false, false, false, false, false, false, false, false, false, false, false, false, false, false, false, false, false, false, false, false, false, false, false] rfl rfl (one_of HT_.out (by kernel_rfl)) (by decide) (fun K hK => ?_)
                                    refine goes_ Try.func35 (by kernel_rfl) rfl #[.slice A1 l1.length c1] (by rfl) rfl rfl (by (try simp only [List.map_toArray, List.map_cons, List.map_nil]); first | done | rfl | (simp only [List.length_drop, List.length_take]; rfl) | (simp only [KY72.out]; done) | (simp only [KY72.out]; rfl)) ?_
                                    with_reducible refine (scullerlaw13_parses.calls kj28 _ _ l1 true _ ?side1 ?side2 A56.out).mono ?_
                                    (case side1 => repeat (first | exact (Kd.C_below HR1.out HB.out) | (with_reducible refine Kd.C_alloc ?_ _) | (with_reducible refine Kd.C_drewN ?_ _) | (with_reducible refine Kd.C_drew ?_)))
                                    (case side2 => exact HC1.out)
                                    rintro e w77 ⟨rfl, hb⟩
                                    refine ⟨_, rfl, ?_⟩
                                    have n0_ := Aside0.mk (Kd.R_below (Far.Ra HO_22.out) hb)
                                    have n1_ := Aside0.mk (Kd.R_below (Far.Ra HO_24.out) hb)
                                    have n2_ := Aside0.mk (Kd.R_below (Far.Ra HO_263005.out) hb)
                                    have n3_ := Aside0.mk (Kd.R_below (Far.Ra HO_263006.out) hb)
                                    have n4_ := Aside0.mk (Kd.R_below (Far.Ra HO277.out) hb)
                                    have n5_ := Aside0.mk (blk_below (g := gb248) (o := .cells #[.int .i64 a0_0, .int .u64 a0_1, .int .i64 a0_2, .int .i64 a0_3, .int .u32 a0_4, .slice A0_5 l0_5.length c0_5, .slice A0_6 l0_6.length c0_6] 56 (0, 0)) (Far.Ba BK248.out) hb)
                                    have n6_ := Aside0.mk (blk_below (g := gb262) (o := .cells #[.int .i64 t251, .int .u64 t252, .int .i64 t253, .int .i64 t254, .int .u32 t255, .slice Ao34 t256.length co34, .slice Ao35 t259.length co35] 56 (0, 0)) (Far.Ba BK262.out) hb)
                                    have n7_ := Aside0.mk (Kd.C_below (by repeat (first | (with_reducible exact HR274.out) | (with_reducible refine Kd.C_alloc ?_ _) | (with_reducible refine Kd.C_drewN ?_ _) | (with_reducible refine Kd.C_drew ?_) | exact HR274.out)) hb)
                                    have n8_ := Aside0.mk (below_step (by repeat (first | (with_reducible first | exact HB.out | apply below_alloc | apply pw_below_drewN | apply below_drew1 | refine below_set ?_ GE248.out | refine below_set ?_ GE262.out) | exact HB.out)) hb)
                                    clear HO_22 HO_24 HO_263005 HO_263006 HO277 BK248 BK262 HR274 HB
                                    have HO_22 := n0_
                                    have HO_24 := n1_
                                    have HO_263005 := n2_
                                    have HO_263006 := n3_
                                    have HO277 := n4_
                                    have BK248 := n5_
                                    have BK262 := n6_
                                    have HR274 := n7_
                                    have HB := n8_
                                    clear n0_ n1_ n2_ n3_ n4_ n5_ n6_ n7_ n8_
                                    (try clear hb)
                                    (try clear hb2)
                                    (try clear hk)
                                    (try clear hi)
                                    refine hK.out _ _ ⟨(blk_cell BK248.out 0).trans rfl, (blk_cell BK248.out 1).trans rfl, (blk_cell BK248.out 2).trans rfl, (blk_cell BK248.out 3).trans rfl, (blk_cell BK248.out 4).trans rfl, (blk_cell BK248.out 5).trans rfl, (blk_cell BK248.out 6).trans rfl, (blk_cell BK262.out 0).trans rfl, (blk_cell BK262.out 1).trans rfl, (blk_cell BK262.out 2).trans rfl, (blk_cell BK262.out 3).trans rfl, (blk_cell BK262.out 4).trans rfl, (blk_cell BK262.out 5).trans rfl, (blk_cell BK262.out 6).trans rfl⟩ (fun hHeld => ?_)
                                    clear hK K
                                    refine norm_ (a' := ?_) ?_ ?_
                                    rotate_left
                                    · show Act.put _ (some 93) _ = _
                                      simp only [Act.put, List.setIfInBounds_toArray, List.set_cons_zero, List.set_cons_succ, i64_w, i32_w]
                                      rfl
                                    refine pure_ (i := 9) (N := some 94) (v := ?_) (a' := ?_) #[true, true, true, true, true, true, true, true, true, true, false, false, false, false, false, false, false, false, false, false, false, false, false, false, false, false, false, false, false, false, false, false, false, false, false, false, false, false, false, false, false, false, false] rfl rfl (any_of HT_.out (by kernel_rfl)) (fun _ _ _ h => h) (Or.inl ⟨by rfl, ?_⟩) ?_ ?_; rotate_left; (intro w'; go_simp; with_reducible rfl); rotate_left; (simp only [Act.put, List.setIfInBounds_toArray, List.set_cons_zero, List.set_cons_succ, i64_w, i32_w]; rfl)
                                    refine pure_ (i := 10) (N := some 95) (v := ?_) (a' := ?_) #[true, true, true, true, true, true, true, true, true, true, true, false, false, false, false, false, false, false, false, false, false, false, false, false, false, false, false, false, false, false, false, false, false, false, false, false, false, false, false, false, false, false, false] rfl rfl (any_of HT_.out (by kernel_rfl)) (fun _ _ _ h => h) (Or.inl ⟨by rfl, ?_⟩) ?_ ?_; rotate_left; (intro w'; go_simp; with_reducible rfl); rotate_left; (simp only [Act.put, List.setIfInBounds_toArray, List.set_cons_zero, List.set_cons_succ, i64_w, i32_w]; rfl)
                                    refine pure_ (i := 11) (N := some 96) (v := ?_) (a' := ?_) #[true, true, true, true, true, true, true, true, true, true, true, true, false, false, false, false, false, false, false, false, false, false, false, false, false, false, false, false, false, false, false, false, false, false, false, false, false, false, false, false, false, false, false] rfl rfl (any_of HT_.out (by kernel_rfl)) (fun _ _ _ h => h) (Or.inl ⟨by rfl, ?_⟩) ?_ ?_; rotate_left; (intro w'; go_simp; with_reducible rfl); rotate_left; (simp only [Act.put, List.setIfInBounds_toArray, List.set_cons_zero, List.set_cons_succ, i64_w, i32_w]; rfl)
                                    refine one_ (i := 12) (N := some 97) #[true, true, true, true, true, true, true, true, true, true, true, true, true, false, false, false, false, false, false, false, false, false, false, false, false, false, false, false, false, false, false, false, false, false, false, false, false, false, false, false, false, false, false] rfl rfl (one_of HT_.out (by kernel_rfl)) (by decide) (fun K hK => ?_)
                                    refine goes_ Try.func35 (by kernel_rfl) rfl #[.slice Ao38 t263.length co38] (by rfl) rfl rfl (by (try simp only [List.map_toArray, List.map_cons, List.map_nil]); first | done | rfl | (simp only [List.length_drop, List.length_take]; rfl) | (simp only [KY72.out]; done) | (simp only [KY72.out]; rfl)) ?_
                                    with_reducible refine (scullerlaw13_parses.calls kj28 _ _ t263 true _ ?side1 ?side2 A58.out).mono ?_
                                    (case side1 => repeat (first | exact (Kd.R_reads' HO_22.out).2.2 | (with_reducible refine Kd.C_alloc ?_ _) | (with_reducible refine Kd.C_drewN ?_ _) | (with_reducible refine Kd.C_drew ?_)))
                                    (case side2 => exact (Kd.R_reads' HO_22.out).2.1)
                                    rintro e w78 ⟨rfl, hb⟩
                                    refine ⟨_, rfl, ?_⟩
                                    have n0_ := Aside0.mk (Kd.R_below (Far.Ra HO_22.out) hb)
                                    have n1_ := Aside0.mk (Kd.R_below (Far.Ra HO_24.out) hb)
                                    have n2_ := Aside0.mk (Kd.R_below (Far.Ra HO_263005.out) hb)
                                    have n3_ := Aside0.mk (Kd.R_below (Far.Ra HO_263006.out) hb)
                                    have n4_ := Aside0.mk (Kd.R_below (Far.Ra HO277.out) hb)
                                    have n5_ := Aside0.mk (blk_below (g := gb248) (o := .cells #[.int .i64 a0_0, .int .u64 a0_1, .int .i64 a0_2, .int .i64 a0_3, .int .u32 a0_4, .slice A0_5 l0_5.length c0_5, .slice A0_6 l0_6.length c0_6] 56 (0, 0)) (Far.Ba BK248.out) hb)
                                    have n6_ := Aside0.mk (blk_below (g := gb262) (o := .cells #[.int .i64 t251, .int .u64 t252, .int .i64 t253, .int .i64 t254, .int .u32 t255, .slice Ao34 t256.length co34, .slice Ao35 t259.length co35] 56 (0, 0)) (Far.Ba BK262.out) hb)
                                    have n7_ := Aside0.mk (Kd.C_below (by repeat (first | (with_reducible exact HR274.out) | (with_reducible refine Kd.C_alloc ?_ _) | (with_reducible refine Kd.C_drewN ?_ _) | (with_reducible refine Kd.C_drew ?_) | exact HR274.out)) hb)
                                    have n8_ := Aside0.mk (below_step (by repeat (first | (with_reducible first | exact HB.out | apply below_alloc | apply pw_below_drewN | apply below_drew1 | refine below_set ?_ GE248.out | refine below_set ?_ GE262.out) | exact HB.out)) hb)
                                    clear HO_22 HO_24 HO_263005 HO_263006 HO277 BK248 BK262 HR274 HB
                                    have HO_22 := n0_
                                    have HO_24 := n1_
                                    have HO_263005 := n2_
                                    have HO_263006 := n3_
                                    have HO277 := n4_
                                    have BK248 := n5_
                                    have BK262 := n6_
                                    have HR274 := n7_
                                    have HB := n8_
                                    clear n0_ n1_ n2_ n3_ n4_ n5_ n6_ n7_ n8_
                                    (try clear hb)
                                    (try clear hb2)
                                    (try clear hk)
                                    (try clear hi)
                                    refine hK.out _ _ ⟨(blk_cell BK248.out 0).trans rfl, (blk_cell BK248.out 1).trans rfl, (blk_cell BK248.out 2).trans rfl, (blk_cell BK248.out 3).trans rfl, (blk_cell BK248.out 4).trans rfl, (blk_cell BK248.out 5).trans rfl, (blk_cell BK248.out 6).trans rfl, (blk_cell BK262.out 0).trans rfl, (blk_cell BK262.out 1).trans rfl, (blk_cell BK262.out 2).trans rfl, (blk_cell BK262.out 3).trans rfl, (blk_cell BK262.out 4).trans rfl, (blk_cell BK262.out 5).trans rfl, (blk_cell BK262.out 6).trans rfl⟩ (fun hHeld => ?_)
                                    clear hK K
                                    refine norm_ (a' := ?_) ?_ ?_
                                    rotate_left
                                    · show Act.put _ (some 97) _ = _
                                      simp only [Act.put, List.setIfInBounds_toArray, List.set_cons_zero, List.set_cons_succ, i64_w, i32_w]
                                      rfl
                                    refine pure_ (i := 13) (N := some 98) (v := ?_) (a' := ?_) #[true, true, true, true, true, true, true, true, true, true, true, true, true, true, false, false, false, false, false, false, false, false, false, false, false, false, false, false, false, false, false, false, false, false, false, false, false, false, false, false, false, false, false] rfl rfl (any_of HT_.out (by kernel_rfl)) (fun _ _ _ h => h) (Or.inl ⟨by rfl, ?_⟩) ?_ ?_; rotate_left; (intro w'; go_simp; with_reducible rfl); rotate_left; (simp only [Act.put, List.setIfInBounds_toArray, List.set_cons_zero, List.set_cons_succ, i64_w, i32_w]; rfl)
                                    refine pure_ (i := 14) (N := some 99) (v := ?_) (a' := ?_) #[true, true, true, true, true, true, true, true, true, true, true, true, true, true, true, false, false, false, false, false, false, false, false, false, false, false, false, false, false, false, false, false, false, false, false, false, false, false, false, false, false, false, false] rfl rfl (any_of HT_.out (by kernel_rfl)) (fun _ _ _ h => h) (Or.inl ⟨by rfl, ?_⟩) ?_ ?_; rotate_left; (intro w'; go_simp; with_reducible rfl); rotate_left; (simp only [Act.put, List.setIfInBounds_toArray, List.set_cons_zero, List.set_cons_succ, i64_w, i32_w]; rfl)
                                    refine pure_ (i := 15) (N := some 100) (v := ?_) (a' := ?_) #[true, true, true, true, true, true, true, true, true, true, true, true, true, true, true, true, false, false, false, false, false, false, false, false, false, false, false, false, false, false, false, false, false, false, false, false, false, false, false, false, false, false, false] rfl rfl (any_of HT_.out (by kernel_rfl)) (fun _ _ _ h => h) (Or.inl ⟨by rfl, ?_⟩) ?_ ?_; rotate_left; (intro w'; go_simp; with_reducible rfl); rotate_left; (simp only [Act.put, List.setIfInBounds_toArray, List.set_cons_zero, List.set_cons_succ, i64_w, i32_w]; rfl)
                                    refine one_ (i := 16) (N := some 101) #[true, true, true, true, true, true, true, true, true, true, true, true, true, true, true, true, true, false, false, false, false, false, false, false, false, false, false, false, false, false, false, false, false, false, false, false, false, false, false, false, false, false, false] rfl rfl (one_of HT_.out (by kernel_rfl)) (by decide) (fun K hK => ?_)
                                    refine goes_ Try.func35 (by kernel_rfl) rfl #[.slice Ao39 x24_28.length co39] (by rfl) rfl rfl (by (try simp only [List.map_toArray, List.map_cons, List.map_nil]); first | done | rfl | (simp only [List.length_drop, List.length_take]; rfl) | (simp only [KY72.out]; done) | (simp only [KY72.out]; rfl)) ?_
                                    with_reducible refine (scullerlaw13_parses.calls kj28 _ _ x24_28 true _ ?side1 ?side2 A60.out).mono ?_
                                    (case side1 => repeat (first | exact (Kd.R_reads' HO_24.out).2.2 | (with_reducible refine Kd.C_alloc ?_ _) | (with_reducible refine Kd.C_drewN ?_ _) | (with_reducible refine Kd.C_drew ?_)))
                                    (case side2 => exact (Kd.R_reads' HO_24.out).2.1)
                                    rintro e w79 ⟨rfl, hb⟩
                                    refine ⟨_, rfl, ?_⟩
                                    have n0_ := Aside0.mk (Kd.R_below (Far.Ra HO_22.out) hb)
                                    have n1_ := Aside0.mk (Kd.R_below (Far.Ra HO_24.out) hb)
                                    have n2_ := Aside0.mk (Kd.R_below (Far.Ra HO_263005.out) hb)
                                    have n3_ := Aside0.mk (Kd.R_below (Far.Ra HO_263006.out) hb)
                                    have n4_ := Aside0.mk (Kd.R_below (Far.Ra HO277.out) hb)
                                    have n5_ := Aside0.mk (blk_below (g := gb248) (o := .cells #[.int .i64 a0_0, .int .u64 a0_1, .int .i64 a0_2, .int .i64 a0_3, .int .u32 a0_4, .slice A0_5 l0_5.length c0_5, .slice A0_6 l0_6.length c0_6] 56 (0, 0)) (Far.Ba BK248.out) hb)
                                    have n6_ := Aside0.mk (blk_below (g := gb262) (o := .cells #[.int .i64 t251, .int .u64 t252, .int .i64 t253, .int .i64 t254, .int .u32 t255, .slice Ao34 t256.length co34, .slice Ao35 t259.length co35] 56 (0, 0)) (Far.Ba BK262.out) hb)
                                    have n7_ := Aside0.mk (Kd.C_below (by repeat (first | (with_reducible exact HR274.out) | (with_reducible refine Kd.C_alloc ?_ _) | (with_reducible refine Kd.C_drewN ?_ _) | (with_reducible refine Kd.C_drew ?_) | exact HR274.out)) hb)
                                    have n8_ := Aside0.mk (below_step (by repeat (first | (with_reducible first | exact HB.out | apply below_alloc | apply pw_below_drewN | apply below_drew1 | refine below_set ?_ GE248.out | refine below_set ?_ GE262.out) | exact HB.out)) hb)
                                    clear HO_22 HO_24 HO_263005 HO_263006 HO277 BK248 BK262 HR274 HB
                                    have HO_22 := n0_
                                    have HO_24 := n1_
                                    have HO_263005 := n2_
                                    have HO_263006 := n3_
                                    have HO277 := n4_
                                    have BK248 := n5_
                                    have BK262 := n6_
                                    have HR274 := n7_
                                    have HB := n8_
                                    clear n0_ n1_ n2_ n3_ n4_ n5_ n6_ n7_ n8_
                                    (try clear hb)
                                    (try clear hb2)
                                    (try clear hk)
                                    (try clear hi)
                                    obtain ⟨Ao80, co80, eo80⟩ := Kd.R_slice HO277.out
                                    (first | subst eo80 | (injection eo80 with f1_ f2_ f3_; have f4_ := f1_.symm; have f5_ := f3_.symm; clear f1_ f2_ f3_; subst f4_; subst f5_))
                                    (try have c50b1kco80 : ((ji48) ≤ (co80 : Int)) = True := eq_true (by have h_ := (Kd.R_reads' HO277.out).2.1; have q_ := of_decide_eq_true c50b1; omega))
                                    refine hK.out _ _ ⟨(blk_cell BK248.out 0).trans rfl, (blk_cell BK248.out 1).trans rfl, (blk_cell BK248.out 2).trans rfl, (blk_cell BK248.out 3).trans rfl, (blk_cell BK248.out 4).trans rfl, (blk_cell BK248.out 5).trans rfl, (blk_cell BK248.out 6).trans rfl, (blk_cell BK262.out 0).trans rfl, (blk_cell BK262.out 1).trans rfl, (blk_cell BK262.out 2).trans rfl, (blk_cell BK262.out 3).trans rfl, (blk_cell BK262.out 4).trans rfl, (blk_cell BK262.out 5).trans rfl, (blk_cell BK262.out 6).trans rfl⟩ (fun hHeld => ?_)
                                    clear hK K
                                    refine norm_ (a' := ?_) ?_ ?_
                                    rotate_left
                                    · show Act.put _ (some 101) _ = _
                                      simp only [Act.put, List.setIfInBounds_toArray, List.set_cons_zero, List.set_cons_succ, i64_w, i32_w]
                                      rfl
                                    refine pure_ (i := 17) (N := some 102) (v := ?_) (a' := ?_) #[true, true, true, true, true, true, true, true, true, true, true, true, true, true, true, true, true, true, false, false, false, false, false, false, false, false, false, false, false, false, false, false, false, false, false, false, false, false, false, false, false, false, false] rfl rfl (any_of HT_.out (by kernel_rfl)) (fun _ _ _ h => h) (Or.inl ⟨by rfl, ?_⟩) ?_ ?_; rotate_left; (intro w'; go_simp; with_reducible rfl); rotate_left; (simp only [Act.put, List.setIfInBounds_toArray, List.set_cons_zero, List.set_cons_succ, i64_w, i32_w]; rfl)
                                    refine pure_ (i := 18) (N := some 103) (v := ?_) (a' := ?_) #[true, true, true, true, true, true, true, true, true, true, true, true, true, true, true, true, true, true, true, false, false, false, false, false, false, false, false, false, false, false, false, false, false, false, false, false, false, false, false, false, false, false, false] rfl rfl (any_of HT_.out (by kernel_rfl)) (fun _ _ _ h => h) (Or.inl ⟨by rfl, ?_⟩) ?_ ?_; rotate_left; (intro w'; go_simp; with_reducible rfl); rotate_left; (simp only [Act.put, List.setIfInBounds_toArray, List.set_cons_zero, List.set_cons_succ, i64_w, i32_w]; rfl)
                                    refine pure_ (i := 19) (N := some 104) (v := ?_) (a' := ?_) #[true, true, true, true, true, true, true, true, true, true, true, true, true, true, true, true, true, true, true, true, false, false, false, false, false, false, false, false, false, false, false, false, false, false, false, false, false, false, false, false, false, false, false] rfl rfl (any_of HT_.out (by kernel_rfl)) (fun _ _ _ h => h) (Or.inl ⟨by rfl, ?_⟩) ?_ ?_; rotate_left; (intro w'; go_simp; with_reducible rfl); rotate_left; (simp only [Act.put, List.setIfInBounds_toArray, List.set_cons_zero, List.set_cons_succ, i64_w, i32_w]; rfl)
                                    refine one_ (i := 20) (N := some 105) #[true, true, true, true, true, true, true, true, true, true, true, true, true, true, true, true, true, true, true, true, true, false, false, false, false, false, false, false, false, false, false, false, false, false, false, false, false, false, false, false, false, false, false] rfl rfl (one_of HT_.out (by kernel_rfl)) (by decide) (fun K hK => ?_)
                                    refine goes_ Try.func36 (by kernel_rfl) rfl #[.slice Ao80 y275.length co80] (by rfl) rfl rfl (by (try simp only [List.map_toArray, List.map_cons, List.map_nil]); first | done | rfl | (simp only [List.length_drop, List.length_take]; rfl) | (simp only [KY72.out]; done) | (simp only [KY72.out]; rfl)) ?_
                                    with_reducible refine (scullerref02_Seal.calls kj28 _ _ y275 t283 _ ?side1 ?side2 A62.out).mono ?_
                                    (case side1 => repeat (first | exact (Kd.R_reads' HO277.out).2.2 | (with_reducible refine Kd.C_alloc ?_ _) | (with_reducible refine Kd.C_drewN ?_ _) | (with_reducible refine Kd.C_drew ?_)))
                                    (case side2 => exact (Kd.R_reads' HO277.out).2.1)
                                    rintro e w81 ⟨v284, rfl, ho0, hb⟩
                                    refine ⟨_, rfl, ?_⟩
                                    have n0_ := Aside0.mk (Kd.R_elder' (Far.Ra HO_22.out) (Kd.R_base ho0) hb)
                                    have n1_ := Aside0.mk (Kd.R_elder' (Far.Ra HO_24.out) (Kd.R_base ho0) hb)
                                    have n2_ := Aside0.mk (Kd.R_below (Far.Ra HO_263005.out) hb)
                                    have n3_ := Aside0.mk (Kd.R_elder' (Far.Ra HO_263006.out) (Kd.R_base ho0) hb)
                                    have n4_ := Aside0.mk (Kd.R_elder' (Far.Ra HO277.out) (Kd.R_base ho0) hb)
                                    have n5_ := Aside0.mk (Kd.R_lower (Kd.R_new' (Kd.R_new' (Kd.R_new' (Kd.R_new' ho0 (Kd.R_lt (Far.Ra HO_22.out))) (Kd.R_lt (Far.Ra HO_24.out))) (Kd.R_lt (Far.Ra HO_263006.out))) (Kd.R_lt (Far.Ra HO277.out))) (below_size (by repeat (first | (with_reducible first | exact HB.out | apply below_alloc | apply pw_below_drewN | apply below_drew1 | refine below_set ?_ GE248.out | refine below_set ?_ GE262.out) | exact HB.out))))
                                    have n6_ := Aside0.mk (blk_below (g := gb248) (o := .cells #[.int .i64 a0_0, .int .u64 a0_1, .int .i64 a0_2, .int .i64 a0_3, .int .u32 a0_4, .slice A0_5 l0_5.length c0_5, .slice A0_6 l0_6.length c0_6] 56 (0, 0)) (Far.Ba BK248.out) hb)
                                    have n7_ := Aside0.mk (blk_below (g := gb262) (o := .cells #[.int .i64 t251, .int .u64 t252, .int .i64 t253, .int .i64 t254, .int .u32 t255, .slice Ao34 t256.length co34, .slice Ao35 t259.length co35] 56 (0, 0)) (Far.Ba BK262.out) hb)
                                    have n8_ := Aside0.mk (Kd.C_below (by repeat (first | (with_reducible exact HR274.out) | (with_reducible refine Kd.C_alloc ?_ _) | (with_reducible refine Kd.C_drewN ?_ _) | (with_reducible refine Kd.C_drew ?_) | exact HR274.out)) hb)
                                    have n9_ := Aside0.mk (below_step (by repeat (first | (with_reducible first | exact HB.out | apply below_alloc | apply pw_below_drewN | apply below_drew1 | refine below_set ?_ GE248.out | refine below_set ?_ GE262.out) | exact HB.out)) hb)
                                    clear HO_22 HO_24 HO_263005 HO_263006 HO277 BK248 BK262 HR274 HB
                                    have HO_22 := n0_
                                    have HO_24 := n1_
                                    have HO_263005 := n2_
                                    have HO_263006 := n3_
                                    have HO277 := n4_
                                    have HO285 := n5_
                                    have BK248 := n6_
                                    have BK262 := n7_
                                    have HR274 := n8_
                                    have HB := n9_
                                    clear n0_ n1_ n2_ n3_ n4_ n5_ n6_ n7_ n8_ n9_
                                    (try clear hb)
                                    (try clear hb2)
                                    (try clear hk)
                                    (try clear hi)
                                    (try clear ho0)
                                    obtain ⟨Ao82, co82, eo82⟩ := Kd.R_slice HO285.out
                                    (first | subst eo82 | (injection eo82 with f1_ f2_ f3_; have f4_ := f1_.symm; have f5_ := f3_.symm; clear f1_ f2_ f3_; subst f4_; subst f5_))
                                    (try have c50b1kco82 : ((ji48) ≤ (co82 : Int)) = True := eq_true (by have h_ := (Kd.R_reads' HO285.out).2.1; have q_ := of_decide_eq_true c50b1; omega))
                                    refine hK.out _ _ ⟨(blk_cell BK248.out 0).trans rfl, (blk_cell BK248.out 1).trans rfl, (blk_cell BK248.out 2).trans rfl, (blk_cell BK248.out 3).trans rfl, (blk_cell BK248.out 4).trans rfl, (blk_cell BK248.out 5).trans rfl, (blk_cell BK248.out 6).trans rfl, (blk_cell BK262.out 0).trans rfl, (blk_cell BK262.out 1).trans rfl, (blk_cell BK262.out 2).trans rfl, (blk_cell BK262.out 3).trans rfl, (blk_cell BK262.out 4).trans rfl, (blk_cell BK262.out 5).trans rfl, (blk_cell BK262.out 6).trans rfl⟩ (fun hHeld => ?_)
                                    clear hK K
                                    refine norm_ (a' := ?_) ?_ ?_
                                    rotate_left
                                    · show Act.put _ (some 105) _ = _
                                      simp only [Act.put, List.setIfInBounds_toArray, List.set_cons_zero, List.set_cons_succ, i64_w, i32_w]
                                      rfl
                                    refine one_ (i := 21) (N := some 106) #[true, true, true, true, true, true, true, true, true, true, true, true, true, true, true, true, true, true, true, true, true, true, false, false, false, false, false, false, false, false, false, false, false, false, false, false, false, false, false, false, false, false, false] rfl rfl (one_of HT_.out (by kernel_rfl)) (by decide) (fun K hK => ?_)
                                    refine goes_ Try.func35 (by kernel_rfl) rfl #[.slice Ao82 t283.length co82] (by rfl) rfl rfl (by (try simp only [List.map_toArray, List.map_cons, List.map_nil]); first | done | rfl | (simp only [List.length_drop, List.length_take]; rfl) | (simp only [KY72.out]; done) | (simp only [KY72.out]; rfl)) ?_
                                    with_reducible refine (scullerlaw13_parses.calls kj28 _ _ t283 true _ ?side1 ?side2 A63.out).mono ?_
                                    (case side1 => repeat (first | exact (Kd.R_reads' HO285.out).2.2 | (with_reducible refine Kd.C_alloc ?_ _) | (with_reducible refine Kd.C_drewN ?_ _) | (with_reducible refine Kd.C_drew ?_)))
                                    (case side2 => exact (Kd.R_reads' HO285.out).2.1)
                                    rintro e w83 ⟨rfl, hb⟩
                                    refine ⟨_, rfl, ?_⟩
                                    have n0_ := Aside0.mk (Kd.R_below (Far.Ra HO_22.out) hb)
                                    have n1_ := Aside0.mk (Kd.R_below (Far.Ra HO_24.out) hb)
                                    have n2_ := Aside0.mk (Kd.R_below (Far.Ra HO_263005.out) hb)
                                    have n3_ := Aside0.mk (Kd.R_below (Far.Ra HO_263006.out) hb)
                                    have n4_ := Aside0.mk (Kd.R_below (Far.Ra HO277.out) hb)
                                    have n5_ := Aside0.mk (Kd.R_below (Far.Ra HO285.out) hb)
                                    have n6_ := Aside0.mk (blk_below (g := gb248) (o := .cells #[.int .i64 a0_0, .int .u64 a0_1, .int .i64 a0_2, .int .i64 a0_3, .int .u32 a0_4, .slice A0_5 l0_5.length c0_5, .slice A0_6 l0_6.length c0_6] 56 (0, 0)) (Far.Ba BK248.out) hb)
                                    have n7_ := Aside0.mk (blk_below (g := gb262) (o := .cells #[.int .i64 t251, .int .u64 t252, .int .i64 t253, .int .i64 t254, .int .u32 t255, .slice Ao34 t256.length co34, .slice Ao35 t259.length co35] 56 (0, 0)) (Far.Ba BK262.out) hb)
                                    have n8_ := Aside0.mk (Kd.C_below (by repeat (first | (with_reducible exact HR274.out) | (with_reducible refine Kd.C_alloc ?_ _) | (with_reducible refine Kd.C_drewN ?_ _) | (with_reducible refine Kd.C_drew ?_) | exact HR274.out)) hb)
                                    have n9_ := Aside0.mk (below_step (by repeat (first | (with_reducible first | exact HB.out | apply below_alloc | apply pw_below_drewN | apply below_drew1 | refine below_set ?_ GE248.out | refine below_set ?_ GE262.out) | exact HB.out)) hb)
                                    clear HO_22 HO_24 HO_263005 HO_263006 HO277 HO285 BK248 BK262 HR274 HB
                                    have HO_22 := n0_
                                    have HO_24 := n1_
                                    have HO_263005 := n2_
                                    have HO_263006 := n3_
                                    have HO277 := n4_
                                    have HO285 := n5_
                                    have BK248 := n6_
                                    have BK262 := n7_
                                    have HR274 := n8_
                                    have HB := n9_
                                    clear n0_ n1_ n2_ n3_ n4_ n5_ n6_ n7_ n8_ n9_
                                    (try clear hb)
                                    (try clear hb2)
                                    (try clear hk)
                                    (try clear hi)
                                    refine hK.out _ _ ⟨(blk_cell BK248.out 0).trans rfl, (blk_cell BK248.out 1).trans rfl, (blk_cell BK248.out 2).trans rfl, (blk_cell BK248.out 3).trans rfl, (blk_cell BK248.out 4).trans rfl, (blk_cell BK248.out 5).trans rfl, (blk_cell BK248.out 6).trans rfl, (blk_cell BK262.out 0).trans rfl, (blk_cell BK262.out 1).trans rfl, (blk_cell BK262.out 2).trans rfl, (blk_cell BK262.out 3).trans rfl, (blk_cell BK262.out 4).trans rfl, (blk_cell BK262.out 5).trans rfl, (blk_cell BK262.out 6).trans rfl⟩ (fun hHeld => ?_)
                                    clear hK K
                                    refine norm_ (a' := ?_) ?_ ?_
                                    rotate_left
                                    · show Act.put _ (some 106) _ = _
                                      simp only [Act.put, List.setIfInBounds_toArray, List.set_cons_zero, List.set_cons_succ, i64_w, i32_w]
                                      rfl
                                    refine pure_ (i := 22) (N := some 107) (v := ?_) (a' := ?_) #[true, true, true, true, true, true, true, true, true, true, true, true, true, true, true, true, true, true, true, true, true, true, true, false, false, false, false, false, false, false, false, false, false, false, false, false, false, false, false, false, false, false, false] rfl rfl (any_of HT_.out (by kernel_rfl)) (fun _ _ _ h => h) (Or.inl ⟨by rfl, ?_⟩) ?_ ?_; rotate_left; (intro w'; go_simp; with_reducible rfl); rotate_left; (simp only [Act.put, List.setIfInBounds_toArray, List.set_cons_zero, List.set_cons_succ, i64_w, i32_w]; rfl)
                                    refine pure_ (i := 23) (N := some 108) (v := ?_) (a' := ?_) #[true, true, true, true, true, true, true, true, true, true, true, true, true, true, true, true, true, true, true, true, true, true, true, true, false, false, false, false, false, false, false, false, false, false, false, false, false, false, false, false, false, false, false] rfl rfl (any_of HT_.out (by kernel_rfl)) (fun _ _ _ h => h) (Or.inl ⟨by rfl, ?_⟩) ?_ ?_; rotate_left; (intro w'; go_simp; with_reducible rfl); rotate_left; (simp only [Act.put, List.setIfInBounds_toArray, List.set_cons_zero, List.set_cons_succ, i64_w, i32_w]; rfl)
                                    refine pure_ (i := 24) (N := some 109) (v := ?_) (a' := ?_) #[true, true, true, true, true, true, true, true, true, true, true, true, true, true, true, true, true, true, true, true, true, true, true, true, true, false, false, false, false, false, false, false, false, false, false, false, false, false, false, false, false, false, false] rfl rfl (any_of HT_.out (by kernel_rfl)) (fun _ _ _ h => h) (Or.inl ⟨by rfl, ?_⟩) ?_ ?_; rotate_left; (intro w'; go_simp; with_reducible rfl); rotate_left; (simp only [Act.put, List.setIfInBounds_toArray, List.set_cons_zero, List.set_cons_succ, i64_w, i32_w]; rfl)
                                    refine one_ (i := 25) (N := some 110) #[true, true, true, true, true, true, true, true, true, true, true, true, true, true, true, true, true, true, true, true, true, true, true, true, true, true, false, false, false, false, false, false, false, false, false, false, false, false, false, false, false, false, false] rfl rfl (one_of HT_.out (by kernel_rfl)) (by decide) (fun K hK => ?_)
                                    refine goes_ Try.func36 (by kernel_rfl) rfl #[.slice A1 l1.length c1] (by rfl) rfl rfl (by (try simp only [List.map_toArray, List.map_cons, List.map_nil]); first | done | rfl | (simp only [List.length_drop, List.length_take]; rfl) | (simp only [KY72.out]; done) | (simp only [KY72.out]; rfl)) ?_
                                    with_reducible refine (scullerref02_Seal.calls kj28 _ _ l1 t287 _ ?side1 ?side2 A65.out).mono ?_
                                    (case side1 => repeat (first | exact (Kd.C_below HR1.out HB.out) | (with_reducible refine Kd.C_alloc ?_ _) | (with_reducible refine Kd.C_drewN ?_ _) | (with_reducible refine Kd.C_drew ?_)))
                                    (case side2 => exact HC1.out)
                                    rintro e w84 ⟨v288, rfl, ho0, hb⟩
                                    refine ⟨_, rfl, ?_⟩
                                    have n0_ := Aside0.mk (Kd.R_elder' (Far.Ra HO_22.out) (Kd.R_base ho0) hb)
                                    have n1_ := Aside0.mk (Kd.R_elder' (Far.Ra HO_24.out) (Kd.R_base ho0) hb)
                                    have n2_ := Aside0.mk (Kd.R_below (Far.Ra HO_263005.out) hb)
                                    have n3_ := Aside0.mk (Kd.R_elder' (Far.Ra HO_263006.out) (Kd.R_base ho0) hb)
                                    have n4_ := Aside0.mk (Kd.R_elder' (Far.Ra HO277.out) (Kd.R_base ho0) hb)
                                    have n5_ := Aside0.mk (Kd.R_elder' (Far.Ra HO285.out) (Kd.R_base ho0) hb)
                                    have n6_ := Aside0.mk (Kd.R_lower (Kd.R_new' (Kd.R_new' (Kd.R_new' (Kd.R_new' (Kd.R_new' ho0 (Kd.R_lt (Far.Ra HO_22.out))) (Kd.R_lt (Far.Ra HO_24.out))) (Kd.R_lt (Far.Ra HO_263006.out))) (Kd.R_lt (Far.Ra HO277.out))) (Kd.R_lt (Far.Ra HO285.out))) (below_size (by repeat (first | (with_reducible first | exact HB.out | apply below_alloc | apply pw_below_drewN | apply below_drew1 | refine below_set ?_ GE248.out | refine below_set ?_ GE262.out) | exact HB.out))))
                                    have n7_ := Aside0.mk (blk_below (g := gb248) (o := .cells #[.int .i64 a0_0, .int .u64 a0_1, .int .i64 a0_2, .int .i64 a0_3, .int .u32 a0_4, .slice A0_5 l0_5.length c0_5, .slice A0_6 l0_6.length c0_6] 56 (0, 0)) (Far.Ba BK248.out) hb)
                                    have n8_ := Aside0.mk (blk_below (g := gb262) (o := .cells #[.int .i64 t251, .int .u64 t252, .int .i64 t253, .int .i64 t254, .int .u32 t255, .slice Ao34 t256.length co34, .slice Ao35 t259.length co35] 56 (0, 0)) (Far.Ba BK262.out) hb)
                                    have n9_ := Aside0.mk (Kd.C_below (by repeat (first | (with_reducible exact HR274.out) | (with_reducible refine Kd.C_alloc ?_ _) | (with_reducible refine Kd.C_drewN ?_ _) | (with_reducible refine Kd.C_drew ?_) | exact HR274.out)) hb)
                                    have n10_ := Aside0.mk (below_step (by repeat (first | (with_reducible first | exact HB.out | apply below_alloc | apply pw_below_drewN | apply below_drew1 | refine below_set ?_ GE248.out | refine below_set ?_ GE262.out) | exact HB.out)) hb)
                                    clear HO_22 HO_24 HO_263005 HO_263006 HO277 HO285 BK248 BK262 HR274 HB
                                    have HO_22 := n0_
                                    have HO_24 := n1_
                                    have HO_263005 := n2_
                                    have HO_263006 := n3_
                                    have HO277 := n4_
                                    have HO285 := n5_
                                    have HO289 := n6_
                                    have BK248 := n7_
                                    have BK262 := n8_
                                    have HR274 := n9_
                                    have HB := n10_
                                    clear n0_ n1_ n2_ n3_ n4_ n5_ n6_ n7_ n8_ n9_ n10_
                                    (try clear hb)
                                    (try clear hb2)
                                    (try clear hk)
                                    (try clear hi)
                                    (try clear ho0)
                                    obtain ⟨Ao85, co85, eo85⟩ := Kd.R_slice HO289.out
                                    (first | subst eo85 | (injection eo85 with f1_ f2_ f3_; have f4_ := f1_.symm; have f5_ := f3_.symm; clear f1_ f2_ f3_; subst f4_; subst f5_))
                                    (try have c50b1kco85 : ((ji48) ≤ (co85 : Int)) = True := eq_true (by have h_ := (Kd.R_reads' HO289.out).2.1; have q_ := of_decide_eq_true c50b1; omega))
                                    refine hK.out _ _ ⟨(blk_cell BK248.out 0).trans rfl, (blk_cell BK248.out 1).trans rfl, (blk_cell BK248.out 2).trans rfl, (blk_cell BK248.out 3).trans rfl, (blk_cell BK248.out 4).trans rfl, (blk_cell BK248.out 5).trans rfl, (blk_cell BK248.out 6).trans rfl, (blk_cell BK262.out 0).trans rfl, (blk_cell BK262.out 1).trans rfl, (blk_cell BK262.out 2).trans rfl, (blk_cell BK262.out 3).trans rfl, (blk_cell BK262.out 4).trans rfl, (blk_cell BK262.out 5).trans rfl, (blk_cell BK262.out 6).trans rfl⟩ (fun hHeld => ?_)
                                    clear hK K
                                    refine norm_ (a' := ?_) ?_ ?_
                                    rotate_left
                                    · show Act.put _ (some 110) _ = _
                                      simp only [Act.put, List.setIfInBounds_toArray, List.set_cons_zero, List.set_cons_succ, i64_w, i32_w]
                                      rfl
                                    refine one_ (i := 26) (N := some 111) #[true, true, true, true, true, true, true, true, true, true, true, true, true, true, true, true, true, true, true, true, true, true, true, true, true, true, true, false, false, false, false, false, false, false, false, false, false, false, false, false, false, false, false] rfl rfl (one_of HT_.out (by kernel_rfl)) (by decide) (fun K hK => ?_)
                                    refine goes_ Try.func35 (by kernel_rfl) rfl #[.slice Ao85 t287.length co85] (by rfl) rfl rfl (by (try simp only [List.map_toArray, List.map_cons, List.map_nil]); first | done | rfl | (simp only [List.length_drop, List.length_take]; rfl) | (simp only [KY72.out]; done) | (simp only [KY72.out]; rfl)) ?_
                                    with_reducible refine (scullerlaw13_parses.calls kj28 _ _ t287 true _ ?side1 ?side2 A66.out).mono ?_
                                    (case side1 => repeat (first | exact (Kd.R_reads' HO289.out).2.2 | (with_reducible refine Kd.C_alloc ?_ _) | (with_reducible refine Kd.C_drewN ?_ _) | (with_reducible refine Kd.C_drew ?_)))
                                    (case side2 => exact (Kd.R_reads' HO289.out).2.1)
                                    rintro e w86 ⟨rfl, hb⟩
                                    refine ⟨_, rfl, ?_⟩
                                    have n0_ := Aside0.mk (Kd.R_below (Far.Ra HO_22.out) hb)
                                    have n1_ := Aside0.mk (Kd.R_below (Far.Ra HO_24.out) hb)
                                    have n2_ := Aside0.mk (Kd.R_below (Far.Ra HO_263005.out) hb)
                                    have n3_ := Aside0.mk (Kd.R_below (Far.Ra HO_263006.out) hb)
                                    have n4_ := Aside0.mk (Kd.R_below (Far.Ra HO277.out) hb)
                                    have n5_ := Aside0.mk (Kd.R_below (Far.Ra HO285.out) hb)
                                    have n6_ := Aside0.mk (Kd.R_below (Far.Ra HO289.out) hb)
                                    have n7_ := Aside0.mk (blk_below (g := gb248) (o := .cells #[.int .i64 a0_0, .int .u64 a0_1, .int .i64 a0_2, .int .i64 a0_3, .int .u32 a0_4, .slice A0_5 l0_5.length c0_5, .slice A0_6 l0_6.length c0_6] 56 (0, 0)) (Far.Ba BK248.out) hb)
                                    have n8_ := Aside0.mk (blk_below (g := gb262) (o := .cells #[.int .i64 t251, .int .u64 t252, .int .i64 t253, .int .i64 t254, .int .u32 t255, .slice Ao34 t256.length co34, .slice Ao35 t259.length co35] 56 (0, 0)) (Far.Ba BK262.out) hb)
                                    have n9_ := Aside0.mk (Kd.C_below (by repeat (first | (with_reducible exact HR274.out) | (with_reducible refine Kd.C_alloc ?_ _) | (with_reducible refine Kd.C_drewN ?_ _) | (with_reducible refine Kd.C_drew ?_) | exact HR274.out)) hb)
                                    have n10_ := Aside0.mk (below_step (by repeat (first | (with_reducible first | exact HB.out | apply below_alloc | apply pw_below_drewN | apply below_drew1 | refine below_set ?_ GE248.out | refine below_set ?_ GE262.out) | exact HB.out)) hb)
                                    clear HO_22 HO_24 HO_263005 HO_263006 HO277 HO285 HO289 BK248 BK262 HR274 HB
                                    have HO_22 := n0_
                                    have HO_24 := n1_
                                    have HO_263005 := n2_
                                    have HO_263006 := n3_
                                    have HO277 := n4_
                                    have HO285 := n5_
                                    have HO289 := n6_
                                    have BK248 := n7_
                                    have BK262 := n8_
                                    have HR274 := n9_
                                    have HB := n10_
                                    clear n0_ n1_ n2_ n3_ n4_ n5_ n6_ n7_ n8_ n9_ n10_
                                    (try clear hb)
                                    (try clear hb2)
                                    (try clear hk)
                                    (try clear hi)
                                    refine hK.out _ _ ⟨(blk_cell BK248.out 0).trans rfl, (blk_cell BK248.out 1).trans rfl, (blk_cell BK248.out 2).trans rfl, (blk_cell BK248.out 3).trans rfl, (blk_cell BK248.out 4).trans rfl, (blk_cell BK248.out 5).trans rfl, (blk_cell BK248.out 6).trans rfl, (blk_cell BK262.out 0).trans rfl, (blk_cell BK262.out 1).trans rfl, (blk_cell BK262.out 2).trans rfl, (blk_cell BK262.out 3).trans rfl, (blk_cell BK262.out 4).trans rfl, (blk_cell BK262.out 5).trans rfl, (blk_cell BK262.out 6).trans rfl⟩ (fun hHeld => ?_)
                                    clear hK K
                                    refine norm_ (a' := ?_) ?_ ?_
                                    rotate_left
                                    · show Act.put _ (some 111) _ = _
                                      simp only [Act.put, List.setIfInBounds_toArray, List.set_cons_zero, List.set_cons_succ, i64_w, i32_w]
                                      rfl
                                    refine pure_ (i := 27) (N := some 112) (v := ?_) (a' := ?_) #[true, true, true, true, true, true, true, true, true, true, true, true, true, true, true, true, true, true, true, true, true, true, true, true, true, true, true, true, false, false, false, false, false, false, false, false, false, false, false, false, false, false, false] rfl rfl (any_of HT_.out (by kernel_rfl)) (fun _ _ _ h => h) (Or.inl ⟨by rfl, ?_⟩) ?_ ?_; rotate_left; (intro w'; go_simp; with_reducible rfl); rotate_left; (simp only [Act.put, List.setIfInBounds_toArray, List.set_cons_zero, List.set_cons_succ, i64_w, i32_w]; rfl)
                                    refine pure_ (i := 28) (N := some 113) (v := ?_) (a' := ?_) #[true, true, true, true, true, true, true, true, true, true, true, true, true, true, true, true, true, true, true, true, true, true, true, true, true, true, true, true, true, false, false, false, false, false, false, false, false, false, false, false, false, false, false] rfl rfl (any_of HT_.out (by kernel_rfl)) (fun _ _ _ h => h) (Or.inl ⟨by rfl, ?_⟩) ?_ ?_; rotate_left; (intro w'; go_simp; with_reducible rfl); rotate_left; (simp only [Act.put, List.setIfInBounds_toArray, List.set_cons_zero, List.set_cons_succ, i64_w, i32_w]; rfl)
                                    refine take_ (i := 29) (N := some 114) (v := ?_) (a' := ?_) #[true, true, true, true, true, true, true, true, true, true, true, true, true, true, true, true, true, true, true, true, true, true, true, true, true, true, true, true, true, true, false, false, false, false, false, false, false, false, false, false, false, false, false] rfl rfl (take_ofW HT_.out HW_.out (by kernel_rfl)) (fun _ _ _ h => h) (Or.inl ⟨by rfl, ?_⟩) hHeld ?_ ?_; rotate_left; (rintro w' ⟨s0, s1, s2, s3, s4, s5, s6, s7, s8, s9, s10, s11, s12, s13⟩; go_simp; with_reducible rfl); rotate_left; (simp only [Act.put, List.setIfInBounds_toArray, List.set_cons_zero, List.set_cons_succ, i64_w, i32_w]; rfl)
                                    refine take_ (i := 30) (N := some 115) (v := ?_) (a' := ?_) #[true, true, true, true, true, true, true, true, true, true, true, true, true, true, true, true, true, true, true, true, true, true, true, true, true, true, true, true, true, true, true, false, false, false, false, false, false, false, false, false, false, false, false] rfl rfl (take_ofW HT_.out HW_.out (by kernel_rfl)) (fun _ _ _ h => h) (Or.inl ⟨by rfl, ?_⟩) hHeld ?_ ?_; rotate_left; (rintro w' ⟨s0, s1, s2, s3, s4, s5, s6, s7, s8, s9, s10, s11, s12, s13⟩; go_simp; with_reducible rfl); rotate_left; (simp only [Act.put, List.setIfInBounds_toArray, List.set_cons_zero, List.set_cons_succ, i64_w, i32_w]; rfl)
                                    refine take_ (i := 32) (N := some 117) (v := ?_) (a' := ?_) #[true, true, true, true, true, true, true, true, true, true, true, true, true, true, true, true, true, true, true, true, true, true, true, true, true, true, true, true, true, true, true, false, true, false, false, false, false, false, false, false, false, false, false] rfl rfl (take_ofW HT_.out HW_.out (by kernel_rfl)) (fun _ _ _ h => h) (Or.inl ⟨by rfl, ?_⟩) hHeld ?_ ?_; rotate_left; (rintro w' ⟨s0, s1, s2, s3, s4, s5, s6, s7, s8, s9, s10, s11, s12, s13⟩; go_simp; with_reducible rfl); rotate_left; (simp only [Act.put, List.setIfInBounds_toArray, List.set_cons_zero, List.set_cons_succ, i64_w, i32_w]; rfl)
                                    refine take_ (i := 33) (N := some 118) (v := ?_) (a' := ?_) #[true, true, true, true, true, true, true, true, true, true, true, true, true, true, true, true, true, true, true, true, true, true, true, true, true, true, true, true, true, true, true, false, true, true, false, false, false, false, false, false, false, false, false] rfl rfl (take_ofW HT_.out HW_.out (by kernel_rfl)) (fun _ _ _ h => h) (Or.inl ⟨by rfl, ?_⟩) hHeld ?_ ?_; rotate_left; (rintro w' ⟨s0, s1, s2, s3, s4, s5, s6, s7, s8, s9, s10, s11, s12, s13⟩; go_simp; with_reducible rfl); rotate_left; (simp only [Act.put, List.setIfInBounds_toArray, List.set_cons_zero, List.set_cons_succ, i64_w, i32_w]; rfl)
                                    refine one_ (i := 31) (N := some 116) #[true, true, true, true, true, true, true, true, true, true, true, true, true, true, true, true, true, true, true, true, true, true, true, true, true, true, true, true, true, true, true, true, true, true, false, false, false, false, false, false, false, false, false] rfl rfl (one_of HT_.out (by kernel_rfl)) (by decide) (fun K hK => ?_)
                                    refine goes_ Try.func37 (by kernel_rfl) rfl #[.agg #[.int .i64 a0_0, .int .u64 a0_1, .int .i64 a0_2, .int .i64 a0_3, .int .u32 a0_4, .slice A0_5 l0_5.length c0_5, .slice A0_6 l0_6.length c0_6], .agg #[.int .i64 t251, .int .u64 t252, .int .i64 t253, .int .i64 t254, .int .u32 t255, .slice Ao34 t256.length co34, .slice Ao35 t259.length co35]] (by rfl) rfl rfl (by (try simp only [List.map_toArray, List.map_cons, List.map_nil]); first | done | rfl | (simp only [List.length_drop, List.length_take]; rfl) | (simp only [KY72.out]; done) | (simp only [KY72.out]; rfl)) ?_
                                    with_reducible refine (pack_Same.calls kj28 a0_0 a0_1 a0_2 a0_3 a0_4 _ _ l0_5 _ _ l0_6 t251 t252 t253 t254 t255 _ _ t256 _ _ t259 t291 _ ?side1 ?side2 ?side3 ?side4 ?side5 ?side6 ?side7 ?side8 A68.out).mono ?_
                                    (case side1 => repeat (first | exact (Kd.C_below HR0_5.out HB.out) | (with_reducible refine Kd.C_alloc ?_ _) | (with_reducible refine Kd.C_drewN ?_ _) | (with_reducible refine Kd.C_drew ?_)))
                                    (case side2 => exact HC0_5.out)
                                    (case side3 => repeat (first | exact (Kd.C_below HR0_6.out HB.out) | (with_reducible refine Kd.C_alloc ?_ _) | (with_reducible refine Kd.C_drewN ?_ _) | (with_reducible refine Kd.C_drew ?_)))
                                    (case side4 => exact HC0_6.out)
                                    (case side5 => repeat (first | exact (Kd.R_reads' HO_263005.out).2.2 | (with_reducible refine Kd.C_alloc ?_ _) | (with_reducible refine Kd.C_drewN ?_ _) | (with_reducible refine Kd.C_drew ?_)))
                                    (case side6 => exact (Kd.R_reads' HO_263005.out).2.1)
                                    (case side7 => repeat (first | exact (Kd.R_reads' HO_263006.out).2.2 | (with_reducible refine Kd.C_alloc ?_ _) | (with_reducible refine Kd.C_drewN ?_ _) | (with_reducible refine Kd.C_drew ?_)))
                                    (case side8 => exact (Kd.R_reads' HO_263006.out).2.1)
                                    rintro e w87 ⟨rfl, hb⟩
                                    refine ⟨_, rfl, ?_⟩
                                    have n0_ := Aside0.mk (Kd.R_below (Far.Ra HO_22.out) hb)
                                    have n1_ := Aside0.mk (Kd.R_below (Far.Ra HO_24.out) hb)
                                    have n2_ := Aside0.mk (Kd.R_below (Far.Ra HO_263005.out) hb)
                                    have n3_ := Aside0.mk (Kd.R_below (Far.Ra HO_263006.out) hb)
                                    have n4_ := Aside0.mk (Kd.R_below (Far.Ra HO277.out) hb)
                                    have n5_ := Aside0.mk (Kd.R_below (Far.Ra HO285.out) hb)
                                    have n6_ := Aside0.mk (Kd.R_below (Far.Ra HO289.out) hb)
                                    have n7_ := Aside0.mk (blk_below (g := gb248) (o := .cells #[.int .i64 a0_0, .int .u64 a0_1, .int .i64 a0_2, .int .i64 a0_3, .int .u32 a0_4, .slice A0_5 l0_5.length c0_5, .slice A0_6 l0_6.length c0_6] 56 (0, 0)) (Far.Ba BK248.out) hb)
                                    have n8_ := Aside0.mk (blk_below (g := gb262) (o := .cells #[.int .i64 t251, .int .u64 t252, .int .i64 t253, .int .i64 t254, .int .u32 t255, .slice Ao34 t256.length co34, .slice Ao35 t259.length co35] 56 (0, 0)) (Far.Ba BK262.out) hb)
                                    have n9_ := Aside0.mk (Kd.C_below (by repeat (first | (with_reducible exact HR274.out) | (with_reducible refine Kd.C_alloc ?_ _) | (with_reducible refine Kd.C_drewN ?_ _) | (with_reducible refine Kd.C_drew ?_) | exact HR274.out)) hb)
                                    have n10_ := Aside0.mk (below_step (by repeat (first | (with_reducible first | exact HB.out | apply below_alloc | apply pw_below_drewN | apply below_drew1 | refine below_set ?_ GE248.out | refine below_set ?_ GE262.out) | exact HB.out)) hb)
                                    clear HO_22 HO_24 HO_263005 HO_263006 HO277 HO285 HO289 BK248 BK262 HR274 HB
                                    have HO_22 := n0_
                                    have HO_24 := n1_
                                    have HO_263005 := n2_
                                    have HO_263006 := n3_
                                    have HO277 := n4_
                                    have HO285 := n5_
                                    have HO289 := n6_
                                    have BK248 := n7_
                                    have BK262 := n8_
                                    have HR274 := n9_
                                    have HB := n10_
                                    clear n0_ n1_ n2_ n3_ n4_ n5_ n6_ n7_ n8_ n9_ n10_
                                    (try clear hb)
                                    (try clear hb2)
                                    (try clear hk)
                                    (try clear hi)
                                    refine hK.out _ _ ⟨(blk_cell BK248.out 0).trans rfl, (blk_cell BK248.out 1).trans rfl, (blk_cell BK248.out 2).trans rfl, (blk_cell BK248.out 3).trans rfl, (blk_cell BK248.out 4).trans rfl, (blk_cell BK248.out 5).trans rfl, (blk_cell BK248.out 6).trans rfl, (blk_cell BK262.out 0).trans rfl, (blk_cell BK262.out 1).trans rfl, (blk_cell BK262.out 2).trans rfl, (blk_cell BK262.out 3).trans rfl, (blk_cell BK262.out 4).trans rfl, (blk_cell BK262.out 5).trans rfl, (blk_cell BK262.out 6).trans rfl⟩ (fun hHeld => ?_)
                                    clear hK K
                                    refine norm_ (a' := ?_) ?_ ?_
                                    rotate_left
                                    · show Act.put _ (some 116) _ = _
                                      simp only [Act.put, List.setIfInBounds_toArray, List.set_cons_zero, List.set_cons_succ, i64_w, i32_w]
                                      rfl
                                    refine one_ (i := 34) (N := some 119) #[true, true, true, true, true, true, true, true, true, true, true, true, true, true, true, true, true, true, true, true, true, true, true, true, true, true, true, true, true, true, true, true, true, true, true, false, false, false, false, false, false, false, false] rfl rfl (one_of HT_.out (by kernel_rfl)) (by decide) (fun K hK => ?_)
                                    refine goes_ Try.func38 (by kernel_rfl) rfl #[.agg #[.int .i64 a0_0, .int .u64 a0_1, .int .i64 a0_2, .int .i64 a0_3, .int .u32 a0_4, .slice A0_5 l0_5.length c0_5, .slice A0_6 l0_6.length c0_6], .agg #[.int .i64 t251, .int .u64 t252, .int .i64 t253, .int .i64 t254, .int .u32 t255, .slice Ao34 t256.length co34, .slice Ao35 t259.length co35]] (by rfl) rfl rfl (by (try simp only [List.map_toArray, List.map_cons, List.map_nil]); first | done | rfl | (simp only [List.length_drop, List.length_take]; rfl) | (simp only [KY72.out]; done) | (simp only [KY72.out]; rfl)) ?_
                                    with_reducible refine (scullerref13_Same.calls kj28 a0_0 a0_1 a0_2 a0_3 a0_4 _ _ l0_5 _ _ l0_6 t251 t252 t253 t254 t255 _ _ t256 _ _ t259 t292 _ ?side1 ?side2 ?side3 ?side4 ?side5 ?side6 ?side7 ?side8 A69.out).mono ?_
                                    (case side1 => repeat (first | exact (Kd.C_below HR0_5.out HB.out) | (with_reducible refine Kd.C_alloc ?_ _) | (with_reducible refine Kd.C_drewN ?_ _) | (with_reducible refine Kd.C_drew ?_)))
                                    (case side2 => exact HC0_5.out)
                                    (case side3 => repeat (first | exact (Kd.C_below HR0_6.out HB.out) | (with_reducible refine Kd.C_alloc ?_ _) | (with_reducible refine Kd.C_drewN ?_ _) | (with_reducible refine Kd.C_drew ?_)))
                                    (case side4 => exact HC0_6.out)
                                    (case side5 => repeat (first | exact (Kd.R_reads' HO_263005.out).2.2 | (with_reducible refine Kd.C_alloc ?_ _) | (with_reducible refine Kd.C_drewN ?_ _) | (with_reducible refine Kd.C_drew ?_)))
                                    (case side6 => exact (Kd.R_reads' HO_263005.out).2.1)
                                    (case side7 => repeat (first | exact (Kd.R_reads' HO_263006.out).2.2 | (with_reducible refine Kd.C_alloc ?_ _) | (with_reducible refine Kd.C_drewN ?_ _) | (with_reducible refine Kd.C_drew ?_)))
                                    (case side8 => exact (Kd.R_reads' HO_263006.out).2.1)
                                    rintro e w88 ⟨rfl, hb⟩
                                    refine ⟨_, rfl, ?_⟩
                                    have n0_ := Aside0.mk (Kd.R_below (Far.Ra HO_22.out) hb)
                                    have n1_ := Aside0.mk (Kd.R_below (Far.Ra HO_24.out) hb)
                                    have n2_ := Aside0.mk (Kd.R_below (Far.Ra HO_263005.out) hb)
                                    have n3_ := Aside0.mk (Kd.R_below (Far.Ra HO_263006.out) hb)
                                    have n4_ := Aside0.mk (Kd.R_below (Far.Ra HO277.out) hb)
                                    have n5_ := Aside0.mk (Kd.R_below (Far.Ra HO285.out) hb)
                                    have n6_ := Aside0.mk (Kd.R_below (Far.Ra HO289.out) hb)
                                    have n7_ := Aside0.mk (blk_below (g := gb248) (o := .cells #[.int .i64 a0_0, .int .u64 a0_1, .int .i64 a0_2, .int .i64 a0_3, .int .u32 a0_4, .slice A0_5 l0_5.length c0_5, .slice A0_6 l0_6.length c0_6] 56 (0, 0)) (Far.Ba BK248.out) hb)
                                    have n8_ := Aside0.mk (blk_below (g := gb262) (o := .cells #[.int .i64 t251, .int .u64 t252, .int .i64 t253, .int .i64 t254, .int .u32 t255, .slice Ao34 t256.length co34, .slice Ao35 t259.length co35] 56 (0, 0)) (Far.Ba BK262.out) hb)
                                    have n9_ := Aside0.mk (Kd.C_below (by repeat (first | (with_reducible exact HR274.out) | (with_reducible refine Kd.C_alloc ?_ _) | (with_reducible refine Kd.C_drewN ?_ _) | (with_reducible refine Kd.C_drew ?_) | exact HR274.out)) hb)
                                    have n10_ := Aside0.mk (below_step (by repeat (first | (with_reducible first | exact HB.out | apply below_alloc | apply pw_below_drewN | apply below_drew1 | refine below_set ?_ GE248.out | refine below_set ?_ GE262.out) | exact HB.out)) hb)
                                    clear HO_22 HO_24 HO_263005 HO_263006 HO277 HO285 HO289 BK248 BK262 HR274 HB
                                    have HO_22 := n0_
                                    have HO_24 := n1_
                                    have HO_263005 := n2_
                                    have HO_263006 := n3_
                                    have HO277 := n4_
                                    have HO285 := n5_
                                    have HO289 := n6_
                                    have BK248 := n7_
                                    have BK262 := n8_
                                    have HR274 := n9_
                                    have HB := n10_
                                    clear n0_ n1_ n2_ n3_ n4_ n5_ n6_ n7_ n8_ n9_ n10_
                                    (try clear hb)
                                    (try clear hb2)
                                    (try clear hk)
                                    (try clear hi)
                                    refine hK.out _ _ ⟨(blk_cell BK248.out 0).trans rfl, (blk_cell BK248.out 1).trans rfl, (blk_cell BK248.out 2).trans rfl, (blk_cell BK248.out 3).trans rfl, (blk_cell BK248.out 4).trans rfl, (blk_cell BK248.out 5).trans rfl, (blk_cell BK248.out 6).trans rfl, (blk_cell BK262.out 0).trans rfl, (blk_cell BK262.out 1).trans rfl, (blk_cell BK262.out 2).trans rfl, (blk_cell BK262.out 3).trans rfl, (blk_cell BK262.out 4).trans rfl, (blk_cell BK262.out 5).trans rfl, (blk_cell BK262.out 6).trans rfl⟩ (fun hHeld => ?_)
                                    clear hK K
                                    refine norm_ (a' := ?_) ?_ ?_
                                    rotate_left
                                    · show Act.put _ (some 119) _ = _
                                      simp only [Act.put, List.setIfInBounds_toArray, List.set_cons_zero, List.set_cons_succ, i64_w, i32_w]
                                      rfl
                                    refine pure_ (i := 35) (N := some 120) (v := ?_) (a' := ?_) #[true, true, true, true, true, true, true, true, true, true, true, true, true, true, true, true, true, true, true, true, true, true, true, true, true, true, true, true, true, true, true, true, true, true, true, true, false, false, false, false, false, false, false] rfl rfl (any_of HT_.out (by kernel_rfl)) (fun _ _ _ h => h) (Or.inl ⟨by rfl, ?_⟩) ?_ ?_; rotate_left; (intro w'; go_simp; with_reducible rfl); rotate_left; (simp only [Act.put, List.setIfInBounds_toArray, List.set_cons_zero, List.set_cons_succ, i64_w, i32_w]; rfl)
                                    refine pure_ (i := 36) (N := some 121) (v := ?_) (a' := ?_) #[true, true, true, true, true, true, true, true, true, true, true, true, true, true, true, true, true, true, true, true, true, true, true, true, true, true, true, true, true, true, true, true, true, true, true, true, true, false, false, false, false, false, false] rfl rfl (any_of HT_.out (by kernel_rfl)) (fun _ _ _ h => h) (Or.inl ⟨by rfl, ?_⟩) ?_ ?_; rotate_left; (intro w'; go_simp; with_reducible rfl); rotate_left; (simp only [Act.put, List.setIfInBounds_toArray, List.set_cons_zero, List.set_cons_succ, i64_w, i32_w]; rfl)
                                    refine pure_ (i := 37) (N := some 122) (v := ?_) (a' := ?_) #[true, true, true, true, true, true, true, true, true, true, true, true, true, true, true, true, true, true, true, true, true, true, true, true, true, true, true, true, true, true, true, true, true, true, true, true, true, true, false, false, false, false, false] rfl rfl (any_of HT_.out (by kernel_rfl)) (fun _ _ _ h => h) (Or.inl ⟨by rfl, ?_⟩) ?_ ?_; rotate_left; (intro w'; go_simp; with_reducible rfl); rotate_left; (simp only [Act.put, List.setIfInBounds_toArray, List.set_cons_zero, List.set_cons_succ, i64_w, i32_w]; rfl)
                                    refine take_ (i := 38) (N := some 123) (v := ?_) (a' := ?_) #[true, true, true, true, true, true, true, true, true, true, true, true, true, true, true, true, true, true, true, true, true, true, true, true, true, true, true, true, true, true, true, true, true, true, true, true, true, true, true, false, false, false, false] rfl rfl (take_ofW HT_.out HW_.out (by kernel_rfl)) (fun _ _ _ h => h) (Or.inl ⟨by rfl, ?_⟩) hHeld ?_ ?_; rotate_left; (rintro w' ⟨s0, s1, s2, s3, s4, s5, s6, s7, s8, s9, s10, s11, s12, s13⟩; go_simp; with_reducible rfl); rotate_left; (simp only [Act.put, List.setIfInBounds_toArray, List.set_cons_zero, List.set_cons_succ, i64_w, i32_w]; rfl)
                                    refine take_ (i := 39) (N := some 124) (v := ?_) (a' := ?_) #[true, true, true, true, true, true, true, true, true, true, true, true, true, true, true, true, true, true, true, true, true, true, true, true, true, true, true, true, true, true, true, true, true, true, true, true, true, true, true, true, false, false, false] rfl rfl (take_ofW HT_.out HW_.out (by kernel_rfl)) (fun _ _ _ h => h) (Or.inl ⟨by rfl, ?_⟩) hHeld ?_ ?_; rotate_left; (rintro w' ⟨s0, s1, s2, s3, s4, s5, s6, s7, s8, s9, s10, s11, s12, s13⟩; go_simp; with_reducible rfl); rotate_left; (simp only [Act.put, List.setIfInBounds_toArray, List.set_cons_zero, List.set_cons_succ, i64_w, i32_w]; rfl)
                                    refine one_ (i := 40) (N := some 125) #[true, true, true, true, true, true, true, true, true, true, true, true, true, true, true, true, true, true, true, true, true, true, true, true, true, true, true, true, true, true, true, true, true, true, true, true, true, true, true, true, true, false, false] rfl rfl (one_of HT_.out (by kernel_rfl)) (by decide) (fun K hK => ?_)
                                    refine goes_ Try.func37 (by kernel_rfl) rfl #[.agg #[.int .i64 t251, .int .u64 t252, .int .i64 t253, .int .i64 t254, .int .u32 t255, .slice Ao34 t256.length co34, .slice Ao35 t259.length co35], .agg #[.int .i64 t251, .int .u64 t252, .int .i64 t253, .int .i64 t254, .int .u32 t255, .slice Ao34 t256.length co34, .slice Ao35 t259.length co35]] (by rfl) rfl rfl (by (try simp only [List.map_toArray, List.map_cons, List.map_nil]); first | done | rfl | (simp only [List.length_drop, List.length_take]; rfl) | (simp only [KY72.out]; done) | (simp only [KY72.out]; rfl)) ?_
                                    with_reducible refine (pack_Same.calls kj28 t251 t252 t253 t254 t255 _ _ t256 _ _ t259 t251 t252 t253 t254 t255 _ _ t256 _ _ t259 t293 _ ?side1 ?side2 ?side3 ?side4 ?side5 ?side6 ?side7 ?side8 A71.out).mono ?_
                                    (case side1 => repeat (first | exact (Kd.R_reads' HO_263005.out).2.2 | (with_reducible refine Kd.C_alloc ?_ _) | (with_reducible refine Kd.C_drewN ?_ _) | (with_reducible refine Kd.C_drew ?_)))
                                    (case side2 => exact (Kd.R_reads' HO_263005.out).2.1)
                                    (case side3 => repeat (first | exact (Kd.R_reads' HO_263006.out).2.2 | (with_reducible refine Kd.C_alloc ?_ _) | (with_reducible refine Kd.C_drewN ?_ _) | (with_reducible refine Kd.C_drew ?_)))
                                    (case side4 => exact (Kd.R_reads' HO_263006.out).2.1)
                                    (case side5 => repeat (first | exact (Kd.R_reads' HO_263005.out).2.2 | (with_reducible refine Kd.C_alloc ?_ _) | (with_reducible refine Kd.C_drewN ?_ _) | (with_reducible refine Kd.C_drew ?_)))
                                    (case side6 => exact (Kd.R_reads' HO_263005.out).2.1)
                                    (case side7 => repeat (first | exact (Kd.R_reads' HO_263006.out).2.2 | (with_reducible refine Kd.C_alloc ?_ _) | (with_reducible refine Kd.C_drewN ?_ _) | (with_reducible refine Kd.C_drew ?_)))
                                    (case side8 => exact (Kd.R_reads' HO_263006.out).2.1)
                                    rintro e w89 ⟨rfl, hb⟩
                                    refine ⟨_, rfl, ?_⟩
                                    have n0_ := Aside0.mk (Kd.R_below (Far.Ra HO_22.out) hb)
                                    have n1_ := Aside0.mk (Kd.R_below (Far.Ra HO_24.out) hb)
                                    have n2_ := Aside0.mk (Kd.R_below (Far.Ra HO_263005.out) hb)
                                    have n3_ := Aside0.mk (Kd.R_below (Far.Ra HO_263006.out) hb)
                                    have n4_ := Aside0.mk (Kd.R_below (Far.Ra HO277.out) hb)
                                    have n5_ := Aside0.mk (Kd.R_below (Far.Ra HO285.out) hb)
                                    have n6_ := Aside0.mk (Kd.R_below (Far.Ra HO289.out) hb)
                                    have n7_ := Aside0.mk (blk_below (g := gb248) (o := .cells #[.int .i64 a0_0, .int .u64 a0_1, .int .i64 a0_2, .int .i64 a0_3, .int .u32 a0_4, .slice A0_5 l0_5.length c0_5, .slice A0_6 l0_6.length c0_6] 56 (0, 0)) (Far.Ba BK248.out) hb)
                                    have n8_ := Aside0.mk (blk_below (g := gb262) (o := .cells #[.int .i64 t251, .int .u64 t252, .int .i64 t253, .int .i64 t254, .int .u32 t255, .slice Ao34 t256.length co34, .slice Ao35 t259.length co35] 56 (0, 0)) (Far.Ba BK262.out) hb)
                                    have n9_ := Aside0.mk (Kd.C_below (by repeat (first | (with_reducible exact HR274.out) | (with_reducible refine Kd.C_alloc ?_ _) | (with_reducible refine Kd.C_drewN ?_ _) | (with_reducible refine Kd.C_drew ?_) | exact HR274.out)) hb)
                                    have n10_ := Aside0.mk (below_step (by repeat (first | (with_reducible first | exact HB.out | apply below_alloc | apply pw_below_drewN | apply below_drew1 | refine below_set ?_ GE248.out | refine below_set ?_ GE262.out) | exact HB.out)) hb)
                                    clear HO_22 HO_24 HO_263005 HO_263006 HO277 HO285 HO289 BK248 BK262 HR274 HB
                                    have HO_22 := n0_
                                    have HO_24 := n1_
                                    have HO_263005 := n2_
                                    have HO_263006 := n3_
                                    have HO277 := n4_
                                    have HO285 := n5_
                                    have HO289 := n6_
                                    have BK248 := n7_
                                    have BK262 := n8_
                                    have HR274 := n9_
                                    have HB := n10_
                                    clear n0_ n1_ n2_ n3_ n4_ n5_ n6_ n7_ n8_ n9_ n10_
                                    (try clear hb)
                                    (try clear hb2)
                                    (try clear hk)
                                    (try clear hi)
                                    refine hK.out _ _ ⟨(blk_cell BK248.out 0).trans rfl, (blk_cell BK248.out 1).trans rfl, (blk_cell BK248.out 2).trans rfl, (blk_cell BK248.out 3).trans rfl, (blk_cell BK248.out 4).trans rfl, (blk_cell BK248.out 5).trans rfl, (blk_cell BK248.out 6).trans rfl, (blk_cell BK262.out 0).trans rfl, (blk_cell BK262.out 1).trans rfl, (blk_cell BK262.out 2).trans rfl, (blk_cell BK262.out 3).trans rfl, (blk_cell BK262.out 4).trans rfl, (blk_cell BK262.out 5).trans rfl, (blk_cell BK262.out 6).trans rfl⟩ (fun hHeld => ?_)
                                    clear hK K
                                    refine norm_ (a' := ?_) ?_ ?_
                                    rotate_left
                                    · show Act.put _ (some 125) _ = _
                                      simp only [Act.put, List.setIfInBounds_toArray, List.set_cons_zero, List.set_cons_succ, i64_w, i32_w]
                                      rfl
                                    refine pure_ (i := 41) (N := some 126) (v := ?_) (a' := ?_) #[true, true, true, true, true, true, true, true, true, true, true, true, true, true, true, true, true, true, true, true, true, true, true, true, true, true, true, true, true, true, true, true, true, true, true, true, true, true, true, true, true, true, false] rfl rfl (any_of HT_.out (by kernel_rfl)) (fun _ _ _ h => h) (Or.inl ⟨by rfl, ?_⟩) ?_ ?_; rotate_left; (intro w'; go_simp; with_reducible rfl); rotate_left; (simp only [Act.put, List.setIfInBounds_toArray, List.set_cons_zero, List.set_cons_succ, i64_w, i32_w]; rfl)
                                    refine pure_ (i := 42) (N := some 20) (v := ?_) (a' := ?_) #[true, true, true, true, true, true, true, true, true, true, true, true, true, true, true, true, true, true, true, true, true, true, true, true, true, true, true, true, true, true, true, true, true, true, true, true, true, true, true, true, true, true, true] rfl rfl (any_of HT_.out (by kernel_rfl)) (fun _ _ _ h => h) (Or.inl ⟨by rfl, ?_⟩) ?_ ?_; rotate_left; (intro w'; go_simp; with_reducible rfl); rotate_left; (simp only [Act.put, List.setIfInBounds_toArray, List.set_cons_zero, List.set_cons_succ, i64_w, i32_w]; rfl)
                                    refine done_ (done_of HT_.out (by kernel_rfl)) ?_
                                    try go_wp2
                                    go_ret
                                    exact ⟨by first | rfl | (simp [errW_none, errW_some] <;> rfl) | (simp only [← hji48]; first | rfl | (simp [errW_none, errW_some] <;> rfl)) | (simp [*, errW_none, errW_some] <;> rfl), by repeat (first | (with_reducible first | exact HB.out | apply below_alloc | apply pw_below_drewN | apply below_drew1 | refine below_set ?_ GE248.out | refine below_set ?_ GE262.out) | exact HB.out)⟩
                                  · rw [if_neg c70] at H
                                    have c70b0 : (t291 == t292) = false := by simpa using c70
                                    (try (have c70b1 : decide (t291 = t292) = false := by simpa using c70))
                                    (try (have c70b2 : (t291 == t292) = false := by simpa using c70))
                                    (try (have c70b3 : ¬ (t291 = t292) := by simpa using c70))
                                    clear c70
                                    exact absurd ((Option.some.inj H).trans HRT_.out) (by decide)
                                · replace c67 := Bool.eq_false_iff.mpr c67
                                  subst c67
                                  have H1 : (some false) = some r := by rw [if_neg (show ¬ (false = true) by decide)] at H; exact H
                                  clear H
                                  have H := H1
                                  clear H1
                                  exact absurd ((Option.some.inj H).trans HRT_.out) (by decide)
                              · replace c64 := Bool.eq_false_iff.mpr c64
                                subst c64
                                have H1 : (some false) = some r := by rw [if_neg (show ¬ (false = true) by decide)] at H; exact H
                                clear H
                                have H := H1
                                clear H1
                                exact absurd ((Option.some.inj H).trans HRT_.out) (by decide)
                            · replace c61 := Bool.eq_false_iff.mpr c61
                              subst c61
                              have H1 : (some false) = some r := by rw [if_neg (show ¬ (false = true) by decide)] at H; exact H
                              clear H
                              have H := H1
                              clear H1
                              exact absurd ((Option.some.inj H).trans HRT_.out) (by decide)
                          · replace c59 := Bool.eq_false_iff.mpr c59
                            subst c59
                            have H1 : (some false) = some r := by rw [if_neg (show ¬ (false = true) by decide)] at H; exact H
                            clear H
                            have H := H1
                            clear H1
                            exact absurd ((Option.some.inj H).trans HRT_.out) (by decide)
                        · replace c57 := Bool.eq_false_iff.mpr c57
                          subst c57
                          have H1 : (some false) = some r := by rw [if_neg (show ¬ (false = true) by decide)] at H; exact H
                          clear H
                          have H := H1
                          clear H1
                          exact absurd ((Option.some.inj H).trans HRT_.out) (by decide)
                      · replace c55 := Bool.eq_false_iff.mpr c55
                        subst c55
                        have H1 : (some false) = some r := by rw [if_neg (show ¬ (false = true) by decide)] at H; exact H
                        clear H
                        have H := H1
                        clear H1
                        exact absurd ((Option.some.inj H).trans HRT_.out) (by decide)
                    · replace c53 := Bool.eq_false_iff.mpr c53
                      subst c53
                      have H1 : (some false) = some r := by rw [if_neg (show ¬ (false = true) by decide)] at H; exact H
                      clear H
                      have H := H1
                      clear H1
                      exact absurd ((Option.some.inj H).trans HRT_.out) (by decide)
                  · rw [if_neg c51] at H
                    exact absurd H (by simp)
                · rw [if_neg c50] at H
                  exact absurd H (by simp)
              · rw [if_neg c49] at H
                exact absurd H (by simp)
        · rw [if_neg c28] at H
          exact absurd H (by simp)
end Go.Proofs.Ytliohoalackhiaa.I
