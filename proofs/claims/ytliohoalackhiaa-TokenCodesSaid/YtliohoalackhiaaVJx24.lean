/- Written by a program of this repo (wip/tools/gprint.py): what functions of the Go program compute, the proofs that they do, and the rows of statements. Conditions: those in each theorem. -/
import Derived.Test.YtliohoalackhiaaVJx0
import Derived.Test.YtliohoalackhiaaVJx1
import Derived.Test.YtliohoalackhiaaVJx2
import Derived.Test.YtliohoalackhiaaVJx9
import Derived.Test.YtliohoalackhiaaVJx15
import Derived.Test.YtliohoalackhiaaVJx18
import Derived.Test.YtliohoalackhiaaVJx19
import Derived.Test.YtliohoalackhiaaVJx22
import Derived.Test.YtliohoalackhiaaVJgDecodes
import Derived.Test.YtliohoalackhiaaVW
namespace Go.Proofs.Ytliohoalackhiaa.J
open Go.RowKit Go.Proofs.YtliohoalackhiaaW.PrintWords Go.Proofs.YtliohoalackhiaaW.PrintLast Go.Proofs.YtliohoalackhiaaW.PrintMore
attribute [local go_sem] max2_int min2_int max_two min_two max_three min_three max_four min_four   -- for this text's walks alone
set_option linter.unusedVariables false
set_option linter.unusedSimpArgs false
def scullerlaw14_TokenCodes.j0 : Nat → List Int → Int → List Int → Int → Int → Int → Int → Bool → Int → List Int → Int → List Int → Option (Bool)
  | 0, _, _, _, _, _, _, _, _, _, _, _, _ => none
  | k + 1, x1, x2, x3, x4, x5, x6, x7, x40, x394000, x394001, x394002, x394003 => if x40 = true then ((scullerlaw14_known.f k).bind fun t395 => (some t395)) else ((scullerlaw14_Token.f k x2 x3 x4 x5).bind fun bt396 => ((scullerref14_Encode.f k bt396.1 bt396.2.1 bt396.2.2.1 bt396.2.2.2).bind fun bt405 => (if ([] : List Int).length + bt405.1.length < 140737488355328 then ((some (([] : List Int) ++ bt405.1 : List Int)).bind fun y409 => (if (y409.length : Int) = 0 then (none) else (if 0 ≤ (Int.tmod (wrap64 (x6)) (y409.length : Int)) then (if (Int.tmod (wrap64 (x6)) (y409.length : Int)) < (y409.length : Int) then ((some (y409.set ((Int.tmod (wrap64 (x6)) (y409.length : Int)) : Int).toNat x7 : List Int)).bind fun y412 => ((scullerlaw14_encodes.f k x394000 x394001 x394002 x394003).bind fun t413 => (if t413 = true then ((scullerlaw14_encodes.f k bt396.1 bt396.2.1 bt396.2.2.1 bt396.2.2.2).bind fun t414 => (if t414 = true then ((scullerlaw14_decodes.f k x1).bind fun t415 => (if t415 = true then ((scullerlaw14_decodes.f k bt405.1).bind fun t416 => (if t416 = true then ((scullerlaw14_decodes.f k y412).bind fun t417 => (if t417 = true then (if 0 ≤ (wrap64 ((y409.length : Int) - 4)) then (if (wrap64 ((y409.length : Int) - 4)) ≤ (y409.length : Int) then ((scullerref02_Seal.f k (y412.take ((wrap64 ((y409.length : Int) - 4)) : Int).toNat)).bind fun t422 => ((scullerlaw14_decodes.f k t422).bind fun t425 => (if t425 = true then ((scullerref02_Seal.f k x1).bind fun t426 => ((scullerlaw14_decodes.f k t426).bind fun t429 => (if t429 = true then ((token_Same.f k x394000 x394001 x394002 x394003 bt396.1 bt396.2.1 bt396.2.2.1 bt396.2.2.2).bind fun t430 => ((scullerref14_Same.f k x394000 x394001 x394002 x394003 bt396.1 bt396.2.1 bt396.2.2.1 bt396.2.2.2).bind fun t431 => (some (t430 == t431)))) else (some false)))) else (some false)))) else (none)) else (none)) else (some false))) else (some false))) else (some false))) else (some false))) else (some false)))) else (none)) else (none)))) else (none))))
def scullerlaw14_TokenCodes.f (k : Nat) (a0_0 : Int) (l0_1 : List Int) (a0_2 : Int) (l0_3 : List Int) (l1 : List Int) (a2 : Int) (l3 : List Int) (a4 : Int) (a5 : Int) (a6 : Int) (a7 : Int) : Option (Bool) := if (l1.length : Int) > 300 then (scullerlaw14_TokenCodes.j0 k l1 a2 l3 a4 a5 a6 a7 true a0_0 l0_1 a0_2 l0_3) else (if (l0_3.length : Int) > 100 then (scullerlaw14_TokenCodes.j0 k l1 a2 l3 a4 a5 a6 a7 true a0_0 l0_1 a0_2 l0_3) else (if (l0_1.length : Int) > 40 then (scullerlaw14_TokenCodes.j0 k l1 a2 l3 a4 a5 a6 a7 true a0_0 l0_1 a0_2 l0_3) else ((scullerlaw14_known.f k).bind fun t394 => (scullerlaw14_TokenCodes.j0 k l1 a2 l3 a4 a5 a6 a7 (!t394) a0_0 l0_1 a0_2 l0_3))))
def scullerlaw14_TokenCodes.T8 : Bool × List (List Nat × List Nat) := (true, [([], []), ([0], [0]), ([1, 1], [1]), ([2], [2]), ([3, 2, 2], [2, 3]), ([2, 4], [2, 4]), ([5, 4], [5]), ([6], [6]), ([7, 6, 6], [6, 7]), ([6, 8], [6, 8]), ([9, 8], [9]), ([10], [10]), ([11, 10, 10], [10, 11]), ([10, 12], [10, 12]), ([13, 12], [13]), ([14], [14]), ([15, 14, 14], [14, 15]), ([14, 16], [14, 16]), ([17, 16], [17]), ([18], [18]), ([18], [18]), ([20, 18], [18, 20]), ([21, 18], [18, 21]), ([19, 22, 18], [18, 19, 22]), ([23, 18, 18], [18, 23]), ([24, 24, 18], [18, 24]), ([18, 25], [18, 25]), ([26, 25], [26]), ([27], [27]), ([28, 27, 27], [27, 28]), ([29, 29, 27], [27, 29]), ([27, 30], [27, 30]), ([31, 30], [31]), ([32], [32]), ([32], [32]), ([33, 34, 32, 32], [32, 33, 34]), ([32], [32]), ([32], [32]), ([36, 37, 35, 32], [32, 36, 37]), ([35, 38, 32], [32, 35, 38]), ([32, 39], [32, 39]), ([40, 38, 0, 1, 2, 3, 4, 5, 6, 7, 8, 9, 10, 11, 12, 13, 14, 15, 16, 17, 18, 19, 20, 21, 22, 23, 24, 25, 26, 27, 28, 29, 30, 31, 32, 33, 34, 35, 36, 37, 38, 39, 40], [40])])
def scullerlaw14_TokenCodes.B8 : List Nat := [0, 1, 3, 7, 15, 31, 63, 127, 255, 511, 1023, 2047, 4095, 8191, 16383, 32767, 65535, 131071, 262143, 524287, 524287, 1572863, 3670015, 8388607, 16777215, 33554431, 67108863, 134217727, 268435455, 536870911, 1073741823, 2147483647, 4294967295, 8589934591, 8589934591, 34359738367, 8589934591, 8589934591, 274877906943, 549755813887, 1099511627775, 2199023255551]
theorem scullerlaw14_TokenCodes.tab8 : rtab .any (opsOf Try.f8 8) = scullerlaw14_TokenCodes.T8 := by kernel_rfl
theorem scullerlaw14_TokenCodes.bits8 : waitsOk scullerlaw14_TokenCodes.T8.2 scullerlaw14_TokenCodes.B8 = true := by kernel_rfl
set_option maxHeartbeats 8000000 in
set_option maxRecDepth 100000 in
theorem scullerlaw14_TokenCodes.calls (k : Nat) (a0_0 : Int) (A0_1 : Option Addr) (c0_1 : Nat) (l0_1 : List Int) (a0_2 : Int) (A0_3 : Option Addr) (c0_3 : Nat) (l0_3 : List Int) (A1 : Option Addr) (c1 : Nat) (l1 : List Int) (a2 : Int) (A3 : Option Addr) (c3 : Nat) (l3 : List Int) (a4 : Int) (a5 : Int) (a6 : Int) (a7 : Int) (r : Bool) (w : World) (hr0_1 : Kd.C (Kd.int .i64) w A0_1 l0_1.length l0_1) (hc0_1 : l0_1.length ≤ c0_1) (hr0_3 : Kd.C (Kd.int .u8) w A0_3 l0_3.length l0_3) (hc0_3 : l0_3.length ≤ c0_3) (hr1 : Kd.C (Kd.int .u8) w A1 l1.length l1) (hc1 : l1.length ≤ c1) (hr3 : Kd.C (Kd.int .u8) w A3 l3.length l3) (hc3 : l3.length ≤ c3) (h : scullerlaw14_TokenCodes.f k a0_0 l0_1 a0_2 l0_3 l1 a2 l3 a4 a5 a6 a7 = some r) (hr_ : r = true) :
    Calls Try.prog 8 #[.agg #[.int .u64 a0_0, .slice A0_1 l0_1.length c0_1, .int .u32 a0_2, .slice A0_3 l0_3.length c0_3], .slice A1 l1.length c1, .int .u64 a2, .slice A3 l3.length c3, .int .u8 a4, .int .u8 a5, .int .u16 a6, .int .u8 a7] w fun e w' => e = .returned (.bool r) ∧ Below w.heap.size w w' := by
  have HRT_ := Aside0.mk hr_
  clear hr_
  have hu66 := Try.underlying66
  have HR0_1 := Aside0.mk hr0_1
  have HC0_1 := Aside0.mk hc0_1
  clear hr0_1 hc0_1
  have HR0_3 := Aside0.mk hr0_3
  have HC0_3 := Aside0.mk hc0_3
  clear hr0_3 hc0_3
  have HR1 := Aside0.mk hr1
  have HC1 := Aside0.mk hc1
  clear hr1 hc1
  have HR3 := Aside0.mk hr3
  have HC3 := Aside0.mk hc3
  clear hr3 hc3
  have HB := Aside0.mk (Below.refl w.heap.size w)
  have H : (if (l1.length : Int) > 300 then (scullerlaw14_TokenCodes.j0 k l1 a2 l3 a4 a5 a6 a7 true a0_0 l0_1 a0_2 l0_3) else (if (l0_3.length : Int) > 100 then (scullerlaw14_TokenCodes.j0 k l1 a2 l3 a4 a5 a6 a7 true a0_0 l0_1 a0_2 l0_3) else (if (l0_1.length : Int) > 40 then (scullerlaw14_TokenCodes.j0 k l1 a2 l3 a4 a5 a6 a7 true a0_0 l0_1 a0_2 l0_3) else ((scullerlaw14_known.f k).bind fun t394 => (scullerlaw14_TokenCodes.j0 k l1 a2 l3 a4 a5 a6 a7 (!t394) a0_0 l0_1 a0_2 l0_3))))) = some r := h
  clear h
  have HC9 := Aside0.mk H
  clear H
  go_enter Try.func8, Try.ntmps8
  go_upto_region 1 with (first | ((with_reducible refine gate_dst (N := 8) rfl ?_); (try (refine gate_guard (by rfl) ?_; dsimp only)); refine box_event ?hg (N := 8) ?hd (cs := #[.int .u64 a0_0, .slice A0_1 l0_1.length c0_1, .int .u32 a0_2, .slice A0_3 l0_3.length c0_3]) (t := 66) ?hr ?_; (case hd => rfl); (case hg => rfl); (case hr => first | (go_simp; done) | (go_simp; rfl)); intro gb393 hg w10 hbox hb; have n0_ := Aside0.mk (below_step (Far.Bb HB.out) hb); have n1_ := Aside0.mk (hbox); have n2_ := Aside0.mk ((by rw [hg]; exact (below_size (Far.Bb HB.out)) : w.heap.size ≤ gb393)); have n3_ := Aside0.mk ((by rw [hg]; exact (below_size (Far.Bb HB.out)) : w.heap.size ≤ gb393)); clear HB; have HB := n0_; have BK393 := n1_; have GW393 := n2_; have GE393 := n3_; clear n0_ n1_ n2_ n3_; clear hb hbox hg))
  (try simp only [Act.put, List.setIfInBounds_toArray, List.set_cons_zero, List.set_cons_succ])
  go_cut [40] (fun v40 wc => ∃ (kq : Nat) (x40_8 : Bool), v40 = .bool x40_8 ∧ Aside0 (scullerlaw14_TokenCodes.j0 kq l1 a2 l3 a4 a5 a6 a7 x40_8 a0_0 l0_1 a0_2 l0_3 = some r) ∧ Aside0 (kq ≤ k) ∧ Aside0 (wc.heap[gb393]? = some (.cells #[.int .u64 a0_0, (.slice A0_1 l0_1.length c0_1), .int .u32 a0_2, (.slice A0_3 l0_3.length c0_3)] 66 (0, 0))) ∧ Aside0 (Below w.heap.size w wc))
  case first =>
    have H := HC9.out
    clear HC9
    by_cases c11 : (l1.length : Int) > 300
    · rw [if_pos c11] at H
      have c11b0 : decide (300 < (l1.length : Int)) = true := decide_eq_true c11
      have c11b1 : decide (300 < l1.length) = true := decide_eq_true (by omega)
      clear c11
      (first | rw [c11b0] | rw [c11b1] | (simp only [i64_w, i32_w]; rw [c11b0]) | skip)
      have H' := Aside0.mk H
      clear H
      go_wp2
      go_meet
      case rel => exact ⟨_, (true), (by first | rfl | (simp; done) | (simp [*]; done)), H', ⟨by first | omega | exact Nat.le_refl _⟩, ⟨by (with_reducible repeat (first | refine blk_drewN ?_ _ | refine blk_drew ?_ | refine blk_alloc ?_ _)); exact BK393.out⟩, ⟨by repeat (first | (with_reducible first | exact HB.out | apply below_alloc | apply pw_below_drewN | apply below_drew1 | refine below_set ?_ GE393.out) | exact HB.out)⟩⟩
    · rw [if_neg c11] at H
      have c11b0 : decide (300 < (l1.length : Int)) = false := decide_eq_false c11
      have c11b1 : decide (300 < l1.length) = false := decide_eq_false (by omega)
      clear c11
      (first | rw [c11b0] | rw [c11b1] | (simp only [i64_w, i32_w]; rw [c11b0]) | skip)
      by_cases c12 : (l0_3.length : Int) > 100
      · rw [if_pos c12] at H
        have c12b0 : decide (100 < (l0_3.length : Int)) = true := decide_eq_true c12
        have c12b1 : decide (100 < l0_3.length) = true := decide_eq_true (by omega)
        clear c12
        have H' := Aside0.mk H
        clear H
        have hcz13_0 : w10.cell? ⟨gb393, 0, none⟩ = some (.int .u64 a0_0) := (blk_cell BK393.out 0).trans rfl
        have hcz13_1 : w10.cell? ⟨gb393, 1, none⟩ = some (.slice A0_1 l0_1.length c0_1) := (blk_cell BK393.out 1).trans rfl
        have hcz13_2 : w10.cell? ⟨gb393, 2, none⟩ = some (.int .u32 a0_2) := (blk_cell BK393.out 2).trans rfl
        have hcz13_3 : w10.cell? ⟨gb393, 3, none⟩ = some (.slice A0_3 l0_3.length c0_3) := (blk_cell BK393.out 3).trans rfl
        have hfz13_0 := blk_frozen BK393.out 0
        have hfz13_1 := blk_frozen BK393.out 1
        have hfz13_2 := blk_frozen BK393.out 2
        have hfz13_3 := blk_frozen BK393.out 3
        go_wp2
        go_meet
        case rel => exact ⟨_, (true), (by first | rfl | (simp; done) | (simp [*]; done)), H', ⟨by first | omega | exact Nat.le_refl _⟩, ⟨by (with_reducible repeat (first | refine blk_drewN ?_ _ | refine blk_drew ?_ | refine blk_alloc ?_ _)); exact BK393.out⟩, ⟨by repeat (first | (with_reducible first | exact HB.out | apply below_alloc | apply pw_below_drewN | apply below_drew1 | refine below_set ?_ GE393.out) | exact HB.out)⟩⟩
      · rw [if_neg c12] at H
        have c12b0 : decide (100 < (l0_3.length : Int)) = false := decide_eq_false c12
        have c12b1 : decide (100 < l0_3.length) = false := decide_eq_false (by omega)
        clear c12
        by_cases c14 : (l0_1.length : Int) > 40
        · rw [if_pos c14] at H
          have c14b0 : decide (40 < (l0_1.length : Int)) = true := decide_eq_true c14
          have c14b1 : decide (40 < l0_1.length) = true := decide_eq_true (by omega)
          clear c14
          have H' := Aside0.mk H
          clear H
          have hcz15_0 : w10.cell? ⟨gb393, 0, none⟩ = some (.int .u64 a0_0) := (blk_cell BK393.out 0).trans rfl
          have hcz15_1 : w10.cell? ⟨gb393, 1, none⟩ = some (.slice A0_1 l0_1.length c0_1) := (blk_cell BK393.out 1).trans rfl
          have hcz15_2 : w10.cell? ⟨gb393, 2, none⟩ = some (.int .u32 a0_2) := (blk_cell BK393.out 2).trans rfl
          have hcz15_3 : w10.cell? ⟨gb393, 3, none⟩ = some (.slice A0_3 l0_3.length c0_3) := (blk_cell BK393.out 3).trans rfl
          have hfz15_0 := blk_frozen BK393.out 0
          have hfz15_1 := blk_frozen BK393.out 1
          have hfz15_2 := blk_frozen BK393.out 2
          have hfz15_3 := blk_frozen BK393.out 3
          go_wp2
          go_meet
          case rel => exact ⟨_, (true), (by first | rfl | (simp; done) | (simp [*]; done)), H', ⟨by first | omega | exact Nat.le_refl _⟩, ⟨by (with_reducible repeat (first | refine blk_drewN ?_ _ | refine blk_drew ?_ | refine blk_alloc ?_ _)); exact BK393.out⟩, ⟨by repeat (first | (with_reducible first | exact HB.out | apply below_alloc | apply pw_below_drewN | apply below_drew1 | refine below_set ?_ GE393.out) | exact HB.out)⟩⟩
        · rw [if_neg c14] at H
          have c14b0 : decide (40 < (l0_1.length : Int)) = false := decide_eq_false c14
          have c14b1 : decide (40 < l0_1.length) = false := decide_eq_false (by omega)
          clear c14
          replace H := Option.bind_eq_some_iff.mp H
          obtain ⟨t394, A160, H⟩ := H
          replace H : (scullerlaw14_TokenCodes.j0 k l1 a2 l3 a4 a5 a6 a7 (!t394) a0_0 l0_1 a0_2 l0_3) = some r := H
          have A16 := Aside0.mk A160
          clear A160
          have H' := Aside0.mk H
          clear H
          have hcz17_0 : w10.cell? ⟨gb393, 0, none⟩ = some (.int .u64 a0_0) := (blk_cell BK393.out 0).trans rfl
          have hcz17_1 : w10.cell? ⟨gb393, 1, none⟩ = some (.slice A0_1 l0_1.length c0_1) := (blk_cell BK393.out 1).trans rfl
          have hcz17_2 : w10.cell? ⟨gb393, 2, none⟩ = some (.int .u32 a0_2) := (blk_cell BK393.out 2).trans rfl
          have hcz17_3 : w10.cell? ⟨gb393, 3, none⟩ = some (.slice A0_3 l0_3.length c0_3) := (blk_cell BK393.out 3).trans rfl
          have hfz17_0 := blk_frozen BK393.out 0
          have hfz17_1 := blk_frozen BK393.out 1
          have hfz17_2 := blk_frozen BK393.out 2
          have hfz17_3 := blk_frozen BK393.out 3
          go_wp2_with (first | (go_at_call 39; (with_reducible refine (scullerlaw14_known.calls k  t394 _ A16.out).mono ?_); rintro e w18 ⟨rfl, hb⟩; have n0_ := Aside0.mk (blk_below (g := gb393) (o := .cells #[.int .u64 a0_0, .slice A0_1 l0_1.length c0_1, .int .u32 a0_2, .slice A0_3 l0_3.length c0_3] 66 (0, 0)) (Far.Ba BK393.out) hb); have n1_ := Aside0.mk (below_step (by repeat (first | (with_reducible first | exact HB.out | apply below_alloc | apply pw_below_drewN | apply below_drew1 | refine below_set ?_ GE393.out) | exact HB.out)) hb); clear BK393 HB; have BK393 := n0_; have HB := n1_; clear n0_ n1_; (try clear hb); (try clear hb2); (try clear hk); (try clear hi)))
          go_meet
          case rel => exact ⟨_, (!t394), (by first | rfl | (simp; done) | (simp [*]; done)), H', ⟨by first | omega | exact Nat.le_refl _⟩, ⟨by (with_reducible repeat (first | refine blk_drewN ?_ _ | refine blk_drew ?_ | refine blk_alloc ?_ _)); exact BK393.out⟩, ⟨by repeat (first | (with_reducible first | exact HB.out | apply below_alloc | apply pw_below_drewN | apply below_drew1 | refine below_set ?_ GE393.out) | exact HB.out)⟩⟩
  case rest =>
    clear HC9; (try clear c1); (try clear p2); (try clear c3); (try clear c8); (try clear c11); (try clear c11b0); (try clear c11b1); (try clear c12); (try clear c12b0); (try clear c12b1); (try clear c14); (try clear c14b0); (try clear c14b1); (try clear hcz13_0); (try clear hcz13_1); (try clear hcz13_2); (try clear hcz13_3); (try clear hcz15_0); (try clear hcz15_1); (try clear hcz15_2); (try clear hcz15_3); (try clear hcz17_0); (try clear hcz17_1); (try clear hcz17_2); (try clear hcz17_3); (try clear hfz13_0); (try clear hfz13_1); (try clear hfz13_2); (try clear hfz13_3); (try clear hfz15_0); (try clear hfz15_1); (try clear hfz15_2); (try clear hfz15_3); (try clear hfz17_0); (try clear hfz17_1); (try clear hfz17_2); (try clear hfz17_3)
    obtain ⟨kq, x40_8, rfl, HA, HJ8, BK393, HB⟩ := hcut
    cases kq with
    | zero => exact absurd HA.out (by simp [scullerlaw14_TokenCodes.j0])
    | succ kj8 =>
      have H := HA.out
      clear HA
      simp only [scullerlaw14_TokenCodes.j0] at H
      by_cases c19 : x40_8 = true
      · subst c19
        have H1 : ((scullerlaw14_known.f kj8).bind fun t395 => (some t395)) = some r := by rw [if_pos rfl] at H; exact H
        clear H
        have H := H1
        clear H1
        replace H := Option.bind_eq_some_iff.mp H
        obtain ⟨t395, A200, H⟩ := H
        replace H : (some t395) = some r := H
        have A20 := Aside0.mk A200
        clear A200
        obtain rfl := Option.some.inj H
        go_wp2_with (first | ((with_reducible refine gate_callee (f := 39) rfl ?_); refine goesL_ (some 41) rfl rfl Try.func39 (by kernel_rfl) rfl #[] rfl (by (try simp only [List.map_toArray, List.map_cons, List.map_nil]); first | done | rfl | (simp only [List.length_drop, List.length_take]; rfl)) ?_; (with_reducible refine (scullerlaw14_known.calls kj8  t395 _ A20.out).mono ?_); rintro e w21 ⟨rfl, hb⟩; refine ⟨_, rfl, ?_⟩; have n0_ := Aside0.mk (blk_below (g := gb393) (o := .cells #[.int .u64 a0_0, .slice A0_1 l0_1.length c0_1, .int .u32 a0_2, .slice A0_3 l0_3.length c0_3] 66 (0, 0)) (Far.Ba BK393.out) hb); have n1_ := Aside0.mk (below_step (by repeat (first | (with_reducible first | exact HB.out | apply below_alloc | apply pw_below_drewN | apply below_drew1 | refine below_set ?_ GE393.out) | exact HB.out)) hb); clear BK393 HB; have BK393 := n0_; have HB := n1_; clear n0_ n1_; (try clear hb); (try clear hb2); (try clear hk); (try clear hi)))
        go_ret
        exact ⟨by first | rfl | (simp [errW_none, errW_some] <;> rfl) | (simp [*, errW_none, errW_some] <;> rfl) | (refine congrArg (fun z_ : Int => Ending.returned (.bool (z_ == _))) ?_; simp only [IntKind.wrap, IntKind.bits, IntKind.signed]; simp <;> omega), by repeat (first | (with_reducible first | exact HB.out | apply below_alloc | apply pw_below_drewN | apply below_drew1 | refine below_set ?_ GE393.out) | exact HB.out)⟩
      · replace c19 := Bool.eq_false_iff.mpr c19
        subst c19
        have H1 : ((scullerlaw14_Token.f kj8 a2 l3 a4 a5).bind fun bt396 => ((scullerref14_Encode.f kj8 bt396.1 bt396.2.1 bt396.2.2.1 bt396.2.2.2).bind fun bt405 => (if ([] : List Int).length + bt405.1.length < 140737488355328 then ((some (([] : List Int) ++ bt405.1 : List Int)).bind fun y409 => (if (y409.length : Int) = 0 then (none) else (if 0 ≤ (Int.tmod (wrap64 (a6)) (y409.length : Int)) then (if (Int.tmod (wrap64 (a6)) (y409.length : Int)) < (y409.length : Int) then ((some (y409.set ((Int.tmod (wrap64 (a6)) (y409.length : Int)) : Int).toNat a7 : List Int)).bind fun y412 => ((scullerlaw14_encodes.f kj8 a0_0 l0_1 a0_2 l0_3).bind fun t413 => (if t413 = true then ((scullerlaw14_encodes.f kj8 bt396.1 bt396.2.1 bt396.2.2.1 bt396.2.2.2).bind fun t414 => (if t414 = true then ((scullerlaw14_decodes.f kj8 l1).bind fun t415 => (if t415 = true then ((scullerlaw14_decodes.f kj8 bt405.1).bind fun t416 => (if t416 = true then ((scullerlaw14_decodes.f kj8 y412).bind fun t417 => (if t417 = true then (if 0 ≤ (wrap64 ((y409.length : Int) - 4)) then (if (wrap64 ((y409.length : Int) - 4)) ≤ (y409.length : Int) then ((scullerref02_Seal.f kj8 (y412.take ((wrap64 ((y409.length : Int) - 4)) : Int).toNat)).bind fun t422 => ((scullerlaw14_decodes.f kj8 t422).bind fun t425 => (if t425 = true then ((scullerref02_Seal.f kj8 l1).bind fun t426 => ((scullerlaw14_decodes.f kj8 t426).bind fun t429 => (if t429 = true then ((token_Same.f kj8 a0_0 l0_1 a0_2 l0_3 bt396.1 bt396.2.1 bt396.2.2.1 bt396.2.2.2).bind fun t430 => ((scullerref14_Same.f kj8 a0_0 l0_1 a0_2 l0_3 bt396.1 bt396.2.1 bt396.2.2.1 bt396.2.2.2).bind fun t431 => (some (t430 == t431)))) else (some false)))) else (some false)))) else (none)) else (none)) else (some false))) else (some false))) else (some false))) else (some false))) else (some false)))) else (none)) else (none)))) else (none)))) = some r := by rw [if_neg (show ¬ (false = true) by decide)] at H; exact H
        clear H
        have H := H1
        clear H1
        replace H := Option.bind_eq_some_iff.mp H
        obtain ⟨⟨t396, t397, t400, t401⟩, A220, H⟩ := H
        replace H : ((scullerref14_Encode.f kj8 t396 t397 t400 t401).bind fun bt405 => (if ([] : List Int).length + bt405.1.length < 140737488355328 then ((some (([] : List Int) ++ bt405.1 : List Int)).bind fun y409 => (if (y409.length : Int) = 0 then (none) else (if 0 ≤ (Int.tmod (wrap64 (a6)) (y409.length : Int)) then (if (Int.tmod (wrap64 (a6)) (y409.length : Int)) < (y409.length : Int) then ((some (y409.set ((Int.tmod (wrap64 (a6)) (y409.length : Int)) : Int).toNat a7 : List Int)).bind fun y412 => ((scullerlaw14_encodes.f kj8 a0_0 l0_1 a0_2 l0_3).bind fun t413 => (if t413 = true then ((scullerlaw14_encodes.f kj8 t396 t397 t400 t401).bind fun t414 => (if t414 = true then ((scullerlaw14_decodes.f kj8 l1).bind fun t415 => (if t415 = true then ((scullerlaw14_decodes.f kj8 bt405.1).bind fun t416 => (if t416 = true then ((scullerlaw14_decodes.f kj8 y412).bind fun t417 => (if t417 = true then (if 0 ≤ (wrap64 ((y409.length : Int) - 4)) then (if (wrap64 ((y409.length : Int) - 4)) ≤ (y409.length : Int) then ((scullerref02_Seal.f kj8 (y412.take ((wrap64 ((y409.length : Int) - 4)) : Int).toNat)).bind fun t422 => ((scullerlaw14_decodes.f kj8 t422).bind fun t425 => (if t425 = true then ((scullerref02_Seal.f kj8 l1).bind fun t426 => ((scullerlaw14_decodes.f kj8 t426).bind fun t429 => (if t429 = true then ((token_Same.f kj8 a0_0 l0_1 a0_2 l0_3 t396 t397 t400 t401).bind fun t430 => ((scullerref14_Same.f kj8 a0_0 l0_1 a0_2 l0_3 t396 t397 t400 t401).bind fun t431 => (some (t430 == t431)))) else (some false)))) else (some false)))) else (none)) else (none)) else (some false))) else (some false))) else (some false))) else (some false))) else (some false)))) else (none)) else (none)))) else (none))) = some r := H
        have A22 := Aside0.mk A220
        clear A220
        replace H := Option.bind_eq_some_iff.mp H
        obtain ⟨⟨t405, t408⟩, A230, H⟩ := H
        replace H : (if ([] : List Int).length + t405.length < 140737488355328 then ((some (([] : List Int) ++ t405 : List Int)).bind fun y409 => (if (y409.length : Int) = 0 then (none) else (if 0 ≤ (Int.tmod (wrap64 (a6)) (y409.length : Int)) then (if (Int.tmod (wrap64 (a6)) (y409.length : Int)) < (y409.length : Int) then ((some (y409.set ((Int.tmod (wrap64 (a6)) (y409.length : Int)) : Int).toNat a7 : List Int)).bind fun y412 => ((scullerlaw14_encodes.f kj8 a0_0 l0_1 a0_2 l0_3).bind fun t413 => (if t413 = true then ((scullerlaw14_encodes.f kj8 t396 t397 t400 t401).bind fun t414 => (if t414 = true then ((scullerlaw14_decodes.f kj8 l1).bind fun t415 => (if t415 = true then ((scullerlaw14_decodes.f kj8 t405).bind fun t416 => (if t416 = true then ((scullerlaw14_decodes.f kj8 y412).bind fun t417 => (if t417 = true then (if 0 ≤ (wrap64 ((y409.length : Int) - 4)) then (if (wrap64 ((y409.length : Int) - 4)) ≤ (y409.length : Int) then ((scullerref02_Seal.f kj8 (y412.take ((wrap64 ((y409.length : Int) - 4)) : Int).toNat)).bind fun t422 => ((scullerlaw14_decodes.f kj8 t422).bind fun t425 => (if t425 = true then ((scullerref02_Seal.f kj8 l1).bind fun t426 => ((scullerlaw14_decodes.f kj8 t426).bind fun t429 => (if t429 = true then ((token_Same.f kj8 a0_0 l0_1 a0_2 l0_3 t396 t397 t400 t401).bind fun t430 => ((scullerref14_Same.f kj8 a0_0 l0_1 a0_2 l0_3 t396 t397 t400 t401).bind fun t431 => (some (t430 == t431)))) else (some false)))) else (some false)))) else (none)) else (none)) else (some false))) else (some false))) else (some false))) else (some false))) else (some false)))) else (none)) else (none)))) else (none)) = some r := H
        have A23 := Aside0.mk A230
        clear A230
        by_cases c24 : ([] : List Int).length + t405.length < 140737488355328
        · rw [if_pos c24] at H
          have LMc24 := Aside0.mk c24
          clear c24
          obtain ⟨y409, hy409⟩ : ∃ y_ : List Int, y_ = (([] : List Int) ++ t405) := ⟨_, rfl⟩
          replace H : (if (y409.length : Int) = 0 then (none) else (if 0 ≤ (Int.tmod (wrap64 (a6)) (y409.length : Int)) then (if (Int.tmod (wrap64 (a6)) (y409.length : Int)) < (y409.length : Int) then ((some (y409.set ((Int.tmod (wrap64 (a6)) (y409.length : Int)) : Int).toNat a7 : List Int)).bind fun y412 => ((scullerlaw14_encodes.f kj8 a0_0 l0_1 a0_2 l0_3).bind fun t413 => (if t413 = true then ((scullerlaw14_encodes.f kj8 t396 t397 t400 t401).bind fun t414 => (if t414 = true then ((scullerlaw14_decodes.f kj8 l1).bind fun t415 => (if t415 = true then ((scullerlaw14_decodes.f kj8 t405).bind fun t416 => (if t416 = true then ((scullerlaw14_decodes.f kj8 y412).bind fun t417 => (if t417 = true then (if 0 ≤ (wrap64 ((y409.length : Int) - 4)) then (if (wrap64 ((y409.length : Int) - 4)) ≤ (y409.length : Int) then ((scullerref02_Seal.f kj8 (y412.take ((wrap64 ((y409.length : Int) - 4)) : Int).toNat)).bind fun t422 => ((scullerlaw14_decodes.f kj8 t422).bind fun t425 => (if t425 = true then ((scullerref02_Seal.f kj8 l1).bind fun t426 => ((scullerlaw14_decodes.f kj8 t426).bind fun t429 => (if t429 = true then ((token_Same.f kj8 a0_0 l0_1 a0_2 l0_3 t396 t397 t400 t401).bind fun t430 => ((scullerref14_Same.f kj8 a0_0 l0_1 a0_2 l0_3 t396 t397 t400 t401).bind fun t431 => (some (t430 == t431)))) else (some false)))) else (some false)))) else (none)) else (none)) else (some false))) else (some false))) else (some false))) else (some false))) else (some false)))) else (none)) else (none))) = some r := by first | (rw [hy409]; with_reducible exact H) | (have H2_ := (Option.bind_some _ _).symm.trans H; rw [hy409]; with_reducible exact H2_) | (have H2_ := (Option.bind_some _ _).symm.trans H; with_reducible exact H2_) | with_reducible exact H | (rw [hy409]; exact H) | exact H
          have Ny409 := Aside0.mk hy409
          clear hy409
          by_cases c25 : (y409.length : Int) = 0
          · rw [if_pos c25] at H
            exact absurd H (by simp)
          · rw [if_neg c25] at H
            have c25b0 : ((y409.length : Int) == 0) = false := beq_eq_false_iff_ne.mpr c25
            have c25b1 : ((y409.length : Int) != 0) = true := bne_iff_ne.mpr c25
            have c25b2 : ¬ (y409 = []) := fun h_ => c25 (by rw [h_]; rfl)
            obtain ⟨ji26, hji26⟩ : ∃ j_ : Int, (Int.tmod (wrap64 (a6)) (y409.length : Int)) = j_ := ⟨_, rfl⟩
            replace H : (if 0 ≤ (ji26) then (if (ji26) < (y409.length : Int) then ((some (y409.set ((ji26) : Int).toNat a7 : List Int)).bind fun y412 => ((scullerlaw14_encodes.f kj8 a0_0 l0_1 a0_2 l0_3).bind fun t413 => (if t413 = true then ((scullerlaw14_encodes.f kj8 t396 t397 t400 t401).bind fun t414 => (if t414 = true then ((scullerlaw14_decodes.f kj8 l1).bind fun t415 => (if t415 = true then ((scullerlaw14_decodes.f kj8 t405).bind fun t416 => (if t416 = true then ((scullerlaw14_decodes.f kj8 y412).bind fun t417 => (if t417 = true then (if 0 ≤ (wrap64 ((y409.length : Int) - 4)) then (if (wrap64 ((y409.length : Int) - 4)) ≤ (y409.length : Int) then ((scullerref02_Seal.f kj8 (y412.take ((wrap64 ((y409.length : Int) - 4)) : Int).toNat)).bind fun t422 => ((scullerlaw14_decodes.f kj8 t422).bind fun t425 => (if t425 = true then ((scullerref02_Seal.f kj8 l1).bind fun t426 => ((scullerlaw14_decodes.f kj8 t426).bind fun t429 => (if t429 = true then ((token_Same.f kj8 a0_0 l0_1 a0_2 l0_3 t396 t397 t400 t401).bind fun t430 => ((scullerref14_Same.f kj8 a0_0 l0_1 a0_2 l0_3 t396 t397 t400 t401).bind fun t431 => (some (t430 == t431)))) else (some false)))) else (some false)))) else (none)) else (none)) else (some false))) else (some false))) else (some false))) else (some false))) else (some false)))) else (none)) else (none)) = some r := by first | (rw [hji26] at H; exact H) | (simp only [hji26] at H ⊢; exact H)
            (try rw [hji26] at A22)
            (try rw [hji26] at A23)
            by_cases c27 : 0 ≤ (ji26)
            · rw [if_pos c27] at H
              have c27b0 : decide (0 ≤ (ji26)) = true := decide_eq_true c27
              clear c27
              by_cases c28 : (ji26) < (y409.length : Int)
              · rw [if_pos c28] at H
                have c28b0 : decide ((ji26) < (y409.length : Int)) = true := decide_eq_true c28
                clear c28
                obtain ⟨y412, hy412⟩ : ∃ y_ : List Int, y_ = (y409.set ((ji26) : Int).toNat a7) := ⟨_, rfl⟩
                replace H : ((scullerlaw14_encodes.f kj8 a0_0 l0_1 a0_2 l0_3).bind fun t413 => (if t413 = true then ((scullerlaw14_encodes.f kj8 t396 t397 t400 t401).bind fun t414 => (if t414 = true then ((scullerlaw14_decodes.f kj8 l1).bind fun t415 => (if t415 = true then ((scullerlaw14_decodes.f kj8 t405).bind fun t416 => (if t416 = true then ((scullerlaw14_decodes.f kj8 y412).bind fun t417 => (if t417 = true then (if 0 ≤ (wrap64 ((y409.length : Int) - 4)) then (if (wrap64 ((y409.length : Int) - 4)) ≤ (y409.length : Int) then ((scullerref02_Seal.f kj8 (y412.take ((wrap64 ((y409.length : Int) - 4)) : Int).toNat)).bind fun t422 => ((scullerlaw14_decodes.f kj8 t422).bind fun t425 => (if t425 = true then ((scullerref02_Seal.f kj8 l1).bind fun t426 => ((scullerlaw14_decodes.f kj8 t426).bind fun t429 => (if t429 = true then ((token_Same.f kj8 a0_0 l0_1 a0_2 l0_3 t396 t397 t400 t401).bind fun t430 => ((scullerref14_Same.f kj8 a0_0 l0_1 a0_2 l0_3 t396 t397 t400 t401).bind fun t431 => (some (t430 == t431)))) else (some false)))) else (some false)))) else (none)) else (none)) else (some false))) else (some false))) else (some false))) else (some false))) else (some false))) = some r := by first | (rw [hy412]; with_reducible exact H) | (have H2_ := (Option.bind_some _ _).symm.trans H; rw [hy412]; with_reducible exact H2_) | (have H2_ := (Option.bind_some _ _).symm.trans H; with_reducible exact H2_) | with_reducible exact H | (rw [hy412]; exact H) | exact H
                have Ny412 := Aside0.mk hy412
                clear hy412
                replace H := Option.bind_eq_some_iff.mp H
                obtain ⟨t413, A300, H⟩ := H
                replace H : (if t413 = true then ((scullerlaw14_encodes.f kj8 t396 t397 t400 t401).bind fun t414 => (if t414 = true then ((scullerlaw14_decodes.f kj8 l1).bind fun t415 => (if t415 = true then ((scullerlaw14_decodes.f kj8 t405).bind fun t416 => (if t416 = true then ((scullerlaw14_decodes.f kj8 y412).bind fun t417 => (if t417 = true then (if 0 ≤ (wrap64 ((y409.length : Int) - 4)) then (if (wrap64 ((y409.length : Int) - 4)) ≤ (y409.length : Int) then ((scullerref02_Seal.f kj8 (y412.take ((wrap64 ((y409.length : Int) - 4)) : Int).toNat)).bind fun t422 => ((scullerlaw14_decodes.f kj8 t422).bind fun t425 => (if t425 = true then ((scullerref02_Seal.f kj8 l1).bind fun t426 => ((scullerlaw14_decodes.f kj8 t426).bind fun t429 => (if t429 = true then ((token_Same.f kj8 a0_0 l0_1 a0_2 l0_3 t396 t397 t400 t401).bind fun t430 => ((scullerref14_Same.f kj8 a0_0 l0_1 a0_2 l0_3 t396 t397 t400 t401).bind fun t431 => (some (t430 == t431)))) else (some false)))) else (some false)))) else (none)) else (none)) else (some false))) else (some false))) else (some false))) else (some false))) else (some false)) = some r := H
                have A30 := Aside0.mk A300
                clear A300
                by_cases c31 : t413 = true
                · subst c31
                  have H1 : ((scullerlaw14_encodes.f kj8 t396 t397 t400 t401).bind fun t414 => (if t414 = true then ((scullerlaw14_decodes.f kj8 l1).bind fun t415 => (if t415 = true then ((scullerlaw14_decodes.f kj8 t405).bind fun t416 => (if t416 = true then ((scullerlaw14_decodes.f kj8 y412).bind fun t417 => (if t417 = true then (if 0 ≤ (wrap64 ((y409.length : Int) - 4)) then (if (wrap64 ((y409.length : Int) - 4)) ≤ (y409.length : Int) then ((scullerref02_Seal.f kj8 (y412.take ((wrap64 ((y409.length : Int) - 4)) : Int).toNat)).bind fun t422 => ((scullerlaw14_decodes.f kj8 t422).bind fun t425 => (if t425 = true then ((scullerref02_Seal.f kj8 l1).bind fun t426 => ((scullerlaw14_decodes.f kj8 t426).bind fun t429 => (if t429 = true then ((token_Same.f kj8 a0_0 l0_1 a0_2 l0_3 t396 t397 t400 t401).bind fun t430 => ((scullerref14_Same.f kj8 a0_0 l0_1 a0_2 l0_3 t396 t397 t400 t401).bind fun t431 => (some (t430 == t431)))) else (some false)))) else (some false)))) else (none)) else (none)) else (some false))) else (some false))) else (some false))) else (some false))) = some r := by rw [if_pos rfl] at H; exact H
                  clear H
                  have H := H1
                  clear H1
                  replace H := Option.bind_eq_some_iff.mp H
                  obtain ⟨t414, A320, H⟩ := H
                  replace H : (if t414 = true then ((scullerlaw14_decodes.f kj8 l1).bind fun t415 => (if t415 = true then ((scullerlaw14_decodes.f kj8 t405).bind fun t416 => (if t416 = true then ((scullerlaw14_decodes.f kj8 y412).bind fun t417 => (if t417 = true then (if 0 ≤ (wrap64 ((y409.length : Int) - 4)) then (if (wrap64 ((y409.length : Int) - 4)) ≤ (y409.length : Int) then ((scullerref02_Seal.f kj8 (y412.take ((wrap64 ((y409.length : Int) - 4)) : Int).toNat)).bind fun t422 => ((scullerlaw14_decodes.f kj8 t422).bind fun t425 => (if t425 = true then ((scullerref02_Seal.f kj8 l1).bind fun t426 => ((scullerlaw14_decodes.f kj8 t426).bind fun t429 => (if t429 = true then ((token_Same.f kj8 a0_0 l0_1 a0_2 l0_3 t396 t397 t400 t401).bind fun t430 => ((scullerref14_Same.f kj8 a0_0 l0_1 a0_2 l0_3 t396 t397 t400 t401).bind fun t431 => (some (t430 == t431)))) else (some false)))) else (some false)))) else (none)) else (none)) else (some false))) else (some false))) else (some false))) else (some false)) = some r := H
                  have A32 := Aside0.mk A320
                  clear A320
                  by_cases c33 : t414 = true
                  · subst c33
                    have H1 : ((scullerlaw14_decodes.f kj8 l1).bind fun t415 => (if t415 = true then ((scullerlaw14_decodes.f kj8 t405).bind fun t416 => (if t416 = true then ((scullerlaw14_decodes.f kj8 y412).bind fun t417 => (if t417 = true then (if 0 ≤ (wrap64 ((y409.length : Int) - 4)) then (if (wrap64 ((y409.length : Int) - 4)) ≤ (y409.length : Int) then ((scullerref02_Seal.f kj8 (y412.take ((wrap64 ((y409.length : Int) - 4)) : Int).toNat)).bind fun t422 => ((scullerlaw14_decodes.f kj8 t422).bind fun t425 => (if t425 = true then ((scullerref02_Seal.f kj8 l1).bind fun t426 => ((scullerlaw14_decodes.f kj8 t426).bind fun t429 => (if t429 = true then ((token_Same.f kj8 a0_0 l0_1 a0_2 l0_3 t396 t397 t400 t401).bind fun t430 => ((scullerref14_Same.f kj8 a0_0 l0_1 a0_2 l0_3 t396 t397 t400 t401).bind fun t431 => (some (t430 == t431)))) else (some false)))) else (some false)))) else (none)) else (none)) else (some false))) else (some false))) else (some false))) = some r := by rw [if_pos rfl] at H; exact H
                    clear H
                    have H := H1
                    clear H1
                    replace H := Option.bind_eq_some_iff.mp H
                    obtain ⟨t415, A340, H⟩ := H
                    replace H : (if t415 = true then ((scullerlaw14_decodes.f kj8 t405).bind fun t416 => (if t416 = true then ((scullerlaw14_decodes.f kj8 y412).bind fun t417 => (if t417 = true then (if 0 ≤ (wrap64 ((y409.length : Int) - 4)) then (if (wrap64 ((y409.length : Int) - 4)) ≤ (y409.length : Int) then ((scullerref02_Seal.f kj8 (y412.take ((wrap64 ((y409.length : Int) - 4)) : Int).toNat)).bind fun t422 => ((scullerlaw14_decodes.f kj8 t422).bind fun t425 => (if t425 = true then ((scullerref02_Seal.f kj8 l1).bind fun t426 => ((scullerlaw14_decodes.f kj8 t426).bind fun t429 => (if t429 = true then ((token_Same.f kj8 a0_0 l0_1 a0_2 l0_3 t396 t397 t400 t401).bind fun t430 => ((scullerref14_Same.f kj8 a0_0 l0_1 a0_2 l0_3 t396 t397 t400 t401).bind fun t431 => (some (t430 == t431)))) else (some false)))) else (some false)))) else (none)) else (none)) else (some false))) else (some false))) else (some false)) = some r := H
                    have A34 := Aside0.mk A340
                    clear A340
                    by_cases c35 : t415 = true
                    · subst c35
                      have H1 : ((scullerlaw14_decodes.f kj8 t405).bind fun t416 => (if t416 = true then ((scullerlaw14_decodes.f kj8 y412).bind fun t417 => (if t417 = true then (if 0 ≤ (wrap64 ((y409.length : Int) - 4)) then (if (wrap64 ((y409.length : Int) - 4)) ≤ (y409.length : Int) then ((scullerref02_Seal.f kj8 (y412.take ((wrap64 ((y409.length : Int) - 4)) : Int).toNat)).bind fun t422 => ((scullerlaw14_decodes.f kj8 t422).bind fun t425 => (if t425 = true then ((scullerref02_Seal.f kj8 l1).bind fun t426 => ((scullerlaw14_decodes.f kj8 t426).bind fun t429 => (if t429 = true then ((token_Same.f kj8 a0_0 l0_1 a0_2 l0_3 t396 t397 t400 t401).bind fun t430 => ((scullerref14_Same.f kj8 a0_0 l0_1 a0_2 l0_3 t396 t397 t400 t401).bind fun t431 => (some (t430 == t431)))) else (some false)))) else (some false)))) else (none)) else (none)) else (some false))) else (some false))) = some r := by rw [if_pos rfl] at H; exact H
                      clear H
                      have H := H1
                      clear H1
                      replace H := Option.bind_eq_some_iff.mp H
                      obtain ⟨t416, A360, H⟩ := H
                      replace H : (if t416 = true then ((scullerlaw14_decodes.f kj8 y412).bind fun t417 => (if t417 = true then (if 0 ≤ (wrap64 ((y409.length : Int) - 4)) then (if (wrap64 ((y409.length : Int) - 4)) ≤ (y409.length : Int) then ((scullerref02_Seal.f kj8 (y412.take ((wrap64 ((y409.length : Int) - 4)) : Int).toNat)).bind fun t422 => ((scullerlaw14_decodes.f kj8 t422).bind fun t425 => (if t425 = true then ((scullerref02_Seal.f kj8 l1).bind fun t426 => ((scullerlaw14_decodes.f kj8 t426).bind fun t429 => (if t429 = true then ((token_Same.f kj8 a0_0 l0_1 a0_2 l0_3 t396 t397 t400 t401).bind fun t430 => ((scullerref14_Same.f kj8 a0_0 l0_1 a0_2 l0_3 t396 t397 t400 t401).bind fun t431 => (some (t430 == t431)))) else (some false)))) else (some false)))) else (none)) else (none)) else (some false))) else (some false)) = some r := H
                      have A36 := Aside0.mk A360
                      clear A360
                      by_cases c37 : t416 = true
                      · subst c37
                        have H1 : ((scullerlaw14_decodes.f kj8 y412).bind fun t417 => (if t417 = true then (if 0 ≤ (wrap64 ((y409.length : Int) - 4)) then (if (wrap64 ((y409.length : Int) - 4)) ≤ (y409.length : Int) then ((scullerref02_Seal.f kj8 (y412.take ((wrap64 ((y409.length : Int) - 4)) : Int).toNat)).bind fun t422 => ((scullerlaw14_decodes.f kj8 t422).bind fun t425 => (if t425 = true then ((scullerref02_Seal.f kj8 l1).bind fun t426 => ((scullerlaw14_decodes.f kj8 t426).bind fun t429 => (if t429 = true then ((token_Same.f kj8 a0_0 l0_1 a0_2 l0_3 t396 t397 t400 t401).bind fun t430 => ((scullerref14_Same.f kj8 a0_0 l0_1 a0_2 l0_3 t396 t397 t400 t401).bind fun t431 => (some (t430 == t431)))) else (some false)))) else (some false)))) else (none)) else (none)) else (some false))) = some r := by rw [if_pos rfl] at H; exact H
                        clear H
                        have H := H1
                        clear H1
                        replace H := Option.bind_eq_some_iff.mp H
                        obtain ⟨t417, A380, H⟩ := H
                        replace H : (if t417 = true then (if 0 ≤ (wrap64 ((y409.length : Int) - 4)) then (if (wrap64 ((y409.length : Int) - 4)) ≤ (y409.length : Int) then ((scullerref02_Seal.f kj8 (y412.take ((wrap64 ((y409.length : Int) - 4)) : Int).toNat)).bind fun t422 => ((scullerlaw14_decodes.f kj8 t422).bind fun t425 => (if t425 = true then ((scullerref02_Seal.f kj8 l1).bind fun t426 => ((scullerlaw14_decodes.f kj8 t426).bind fun t429 => (if t429 = true then ((token_Same.f kj8 a0_0 l0_1 a0_2 l0_3 t396 t397 t400 t401).bind fun t430 => ((scullerref14_Same.f kj8 a0_0 l0_1 a0_2 l0_3 t396 t397 t400 t401).bind fun t431 => (some (t430 == t431)))) else (some false)))) else (some false)))) else (none)) else (none)) else (some false)) = some r := H
                        have A38 := Aside0.mk A380
                        clear A380
                        by_cases c39 : t417 = true
                        · subst c39
                          have H1 : (if 0 ≤ (wrap64 ((y409.length : Int) - 4)) then (if (wrap64 ((y409.length : Int) - 4)) ≤ (y409.length : Int) then ((scullerref02_Seal.f kj8 (y412.take ((wrap64 ((y409.length : Int) - 4)) : Int).toNat)).bind fun t422 => ((scullerlaw14_decodes.f kj8 t422).bind fun t425 => (if t425 = true then ((scullerref02_Seal.f kj8 l1).bind fun t426 => ((scullerlaw14_decodes.f kj8 t426).bind fun t429 => (if t429 = true then ((token_Same.f kj8 a0_0 l0_1 a0_2 l0_3 t396 t397 t400 t401).bind fun t430 => ((scullerref14_Same.f kj8 a0_0 l0_1 a0_2 l0_3 t396 t397 t400 t401).bind fun t431 => (some (t430 == t431)))) else (some false)))) else (some false)))) else (none)) else (none)) = some r := by rw [if_pos rfl] at H; exact H
                          clear H
                          have H := H1
                          clear H1
                          obtain ⟨ji40, hji40⟩ : ∃ j_ : Int, (wrap64 ((y409.length : Int) - 4)) = j_ := ⟨_, rfl⟩
                          replace H : (if 0 ≤ (ji40) then (if (ji40) ≤ (y409.length : Int) then ((scullerref02_Seal.f kj8 (y412.take ((ji40) : Int).toNat)).bind fun t422 => ((scullerlaw14_decodes.f kj8 t422).bind fun t425 => (if t425 = true then ((scullerref02_Seal.f kj8 l1).bind fun t426 => ((scullerlaw14_decodes.f kj8 t426).bind fun t429 => (if t429 = true then ((token_Same.f kj8 a0_0 l0_1 a0_2 l0_3 t396 t397 t400 t401).bind fun t430 => ((scullerref14_Same.f kj8 a0_0 l0_1 a0_2 l0_3 t396 t397 t400 t401).bind fun t431 => (some (t430 == t431)))) else (some false)))) else (some false)))) else (none)) else (none)) = some r := by first | (rw [hji40] at H; exact H) | (simp only [hji40] at H ⊢; exact H)
                          (try rw [hji40] at A22)
                          (try rw [hji40] at A23)
                          (try rw [hji40] at A30)
                          (try rw [hji40] at A32)
                          (try rw [hji40] at A34)
                          (try rw [hji40] at A36)
                          (try rw [hji40] at A38)
                          have hji40w : (IntKind.i64.wrap ((y409.length : Int) - 4)) = ji40 := (i64_w _).trans hji40
                          by_cases c41 : 0 ≤ (ji40)
                          · rw [if_pos c41] at H
                            have c41b0 := eq_true c41
                            have c41b1 : decide (0 ≤ (ji40)) = true := decide_eq_true c41
                            clear c41
                            by_cases c42 : (ji40) ≤ (y409.length : Int)
                            · rw [if_pos c42] at H
                              have c42b0 := eq_true c42
                              have c42b1 : decide ((ji40) ≤ (y409.length : Int)) = true := decide_eq_true c42
                              clear c42
                              obtain ⟨y418, hy418⟩ : ∃ y_ : List Int, y_ = (y412.take ((ji40) : Int).toNat) := ⟨_, rfl⟩
                              replace H : ((scullerref02_Seal.f kj8 y418).bind fun t422 => ((scullerlaw14_decodes.f kj8 t422).bind fun t425 => (if t425 = true then ((scullerref02_Seal.f kj8 l1).bind fun t426 => ((scullerlaw14_decodes.f kj8 t426).bind fun t429 => (if t429 = true then ((token_Same.f kj8 a0_0 l0_1 a0_2 l0_3 t396 t397 t400 t401).bind fun t430 => ((scullerref14_Same.f kj8 a0_0 l0_1 a0_2 l0_3 t396 t397 t400 t401).bind fun t431 => (some (t430 == t431)))) else (some false)))) else (some false)))) = some r := by first | (rw [hy418]; with_reducible exact H) | (have H2_ := (Option.bind_some _ _).symm.trans H; rw [hy418]; with_reducible exact H2_) | (have H2_ := (Option.bind_some _ _).symm.trans H; with_reducible exact H2_) | with_reducible exact H | (rw [hy418]; exact H) | exact H
                              have Ny418 := Aside0.mk hy418
                              clear hy418
                              replace H := Option.bind_eq_some_iff.mp H
                              obtain ⟨t422, A430, H⟩ := H
                              replace H : ((scullerlaw14_decodes.f kj8 t422).bind fun t425 => (if t425 = true then ((scullerref02_Seal.f kj8 l1).bind fun t426 => ((scullerlaw14_decodes.f kj8 t426).bind fun t429 => (if t429 = true then ((token_Same.f kj8 a0_0 l0_1 a0_2 l0_3 t396 t397 t400 t401).bind fun t430 => ((scullerref14_Same.f kj8 a0_0 l0_1 a0_2 l0_3 t396 t397 t400 t401).bind fun t431 => (some (t430 == t431)))) else (some false)))) else (some false))) = some r := H
                              have A43 := Aside0.mk A430
                              clear A430
                              replace H := Option.bind_eq_some_iff.mp H
                              obtain ⟨t425, A440, H⟩ := H
                              replace H : (if t425 = true then ((scullerref02_Seal.f kj8 l1).bind fun t426 => ((scullerlaw14_decodes.f kj8 t426).bind fun t429 => (if t429 = true then ((token_Same.f kj8 a0_0 l0_1 a0_2 l0_3 t396 t397 t400 t401).bind fun t430 => ((scullerref14_Same.f kj8 a0_0 l0_1 a0_2 l0_3 t396 t397 t400 t401).bind fun t431 => (some (t430 == t431)))) else (some false)))) else (some false)) = some r := H
                              have A44 := Aside0.mk A440
                              clear A440
                              by_cases c45 : t425 = true
                              · subst c45
                                have H1 : ((scullerref02_Seal.f kj8 l1).bind fun t426 => ((scullerlaw14_decodes.f kj8 t426).bind fun t429 => (if t429 = true then ((token_Same.f kj8 a0_0 l0_1 a0_2 l0_3 t396 t397 t400 t401).bind fun t430 => ((scullerref14_Same.f kj8 a0_0 l0_1 a0_2 l0_3 t396 t397 t400 t401).bind fun t431 => (some (t430 == t431)))) else (some false)))) = some r := by rw [if_pos rfl] at H; exact H
                                clear H
                                have H := H1
                                clear H1
                                replace H := Option.bind_eq_some_iff.mp H
                                obtain ⟨t426, A460, H⟩ := H
                                replace H : ((scullerlaw14_decodes.f kj8 t426).bind fun t429 => (if t429 = true then ((token_Same.f kj8 a0_0 l0_1 a0_2 l0_3 t396 t397 t400 t401).bind fun t430 => ((scullerref14_Same.f kj8 a0_0 l0_1 a0_2 l0_3 t396 t397 t400 t401).bind fun t431 => (some (t430 == t431)))) else (some false))) = some r := H
                                have A46 := Aside0.mk A460
                                clear A460
                                replace H := Option.bind_eq_some_iff.mp H
                                obtain ⟨t429, A470, H⟩ := H
                                replace H : (if t429 = true then ((token_Same.f kj8 a0_0 l0_1 a0_2 l0_3 t396 t397 t400 t401).bind fun t430 => ((scullerref14_Same.f kj8 a0_0 l0_1 a0_2 l0_3 t396 t397 t400 t401).bind fun t431 => (some (t430 == t431)))) else (some false)) = some r := H
                                have A47 := Aside0.mk A470
                                clear A470
                                by_cases c48 : t429 = true
                                · subst c48
                                  have H1 : ((token_Same.f kj8 a0_0 l0_1 a0_2 l0_3 t396 t397 t400 t401).bind fun t430 => ((scullerref14_Same.f kj8 a0_0 l0_1 a0_2 l0_3 t396 t397 t400 t401).bind fun t431 => (some (t430 == t431)))) = some r := by rw [if_pos rfl] at H; exact H
                                  clear H
                                  have H := H1
                                  clear H1
                                  replace H := Option.bind_eq_some_iff.mp H
                                  obtain ⟨t430, A490, H⟩ := H
                                  replace H : ((scullerref14_Same.f kj8 a0_0 l0_1 a0_2 l0_3 t396 t397 t400 t401).bind fun t431 => (some (t430 == t431))) = some r := H
                                  have A49 := Aside0.mk A490
                                  clear A490
                                  replace H := Option.bind_eq_some_iff.mp H
                                  obtain ⟨t431, A500, H⟩ := H
                                  replace H : (some (t430 == t431)) = some r := H
                                  have A50 := Aside0.mk A500
                                  clear A500
                                  obtain rfl := Option.some.inj H
                                  try go_wp2_with (first | ((with_reducible refine gate_callee (f := 40) rfl ?_); refine goesL_ (some 46) rfl rfl Try.func40 (by kernel_rfl) rfl #[.int .u64 a2, .slice A3 l3.length c3, .int .u8 a4, .int .u8 a5] rfl (by (try simp only [List.map_toArray, List.map_cons, List.map_nil]); first | done | rfl | (simp only [List.length_drop, List.length_take]; rfl)) ?_; (with_reducible refine (scullerlaw14_Token.calls kj8 a2 _ _ l3 a4 a5 t396 t397 t400 t401 _ ?side1 ?side2 A22.out).mono ?_); (case side1 => repeat (first | exact (Kd.C_below HR3.out HB.out) | (with_reducible refine Kd.C_alloc ?_ _) | (with_reducible refine Kd.C_drewN ?_ _) | (with_reducible refine Kd.C_drew ?_))); (case side2 => exact HC3.out); rintro e w51 ⟨v398, v402, rfl, ho0, ho1, hb⟩; refine ⟨_, rfl, ?_⟩; have n0_ := Aside0.mk (Kd.R_lower ho0 (below_size (by repeat (first | (with_reducible first | exact HB.out | apply below_alloc | apply pw_below_drewN | apply below_drew1 | refine below_set ?_ GE393.out) | exact HB.out)))); have n1_ := Aside0.mk (Kd.R_lower ho1 (below_size (by repeat (first | (with_reducible first | exact HB.out | apply below_alloc | apply pw_below_drewN | apply below_drew1 | refine below_set ?_ GE393.out) | exact HB.out)))); have n2_ := Aside0.mk (blk_below (g := gb393) (o := .cells #[.int .u64 a0_0, .slice A0_1 l0_1.length c0_1, .int .u32 a0_2, .slice A0_3 l0_3.length c0_3] 66 (0, 0)) (Far.Ba BK393.out) hb); have n3_ := Aside0.mk (below_step (by repeat (first | (with_reducible first | exact HB.out | apply below_alloc | apply pw_below_drewN | apply below_drew1 | refine below_set ?_ GE393.out) | exact HB.out)) hb); clear BK393 HB; have HO399 := n0_; have HO403 := n1_; have BK393 := n2_; have HB := n3_; clear n0_ n1_ n2_ n3_; (try clear hb); (try clear hb2); (try clear hk); (try clear hi); (try clear ho0); (try clear ho1)) | ((with_reducible refine gate_dst (N := 17) rfl ?_); (try (refine gate_guard (by rfl) ?_; dsimp only)); refine box_event ?hg (N := 17) ?hd (cs := #[.int .u64 0, .slice none 0 0, .int .u32 0, .slice none 0 0]) (t := 66) ?hr ?_; (case hd => rfl); (case hg => rfl); (case hr => first | (go_simp; done) | (go_simp; rfl)); intro gb404 hg w52 hbox hb; have n0_ := Aside0.mk (Kd.R_below (Far.Ra HO399.out) hb); have n1_ := Aside0.mk (Kd.R_below (Far.Ra HO403.out) hb); have n2_ := Aside0.mk (blk_below (g := gb393) (o := .cells #[.int .u64 a0_0, .slice A0_1 l0_1.length c0_1, .int .u32 a0_2, .slice A0_3 l0_3.length c0_3] 66 (0, 0)) (Far.Ba BK393.out) hb); have n3_ := Aside0.mk (below_step (by repeat (first | (with_reducible first | exact HB.out | apply below_alloc | apply pw_below_drewN | apply below_drew1 | refine below_set ?_ GE393.out) | exact HB.out)) hb); have n4_ := Aside0.mk (hbox); have n5_ := Aside0.mk ((by rw [hg]; exact (below_size (by repeat (first | (with_reducible first | exact HB.out | apply below_alloc | apply pw_below_drewN | apply below_drew1 | refine below_set ?_ GE393.out) | exact HB.out))) : w.heap.size ≤ gb404)); have n6_ := Aside0.mk ((by rw [hg]; exact (below_size (by repeat (first | (with_reducible first | exact HB.out | apply below_alloc | apply pw_below_drewN | apply below_drew1 | refine below_set ?_ GE393.out) | exact HB.out))) : w.heap.size ≤ gb404)); have n7_ := Aside0.mk ((by rw [hg]; exact Nat.ne_of_lt (blk_lt (g := gb393) (o := .cells #[.int .u64 a0_0, .slice A0_1 l0_1.length c0_1, .int .u32 a0_2, .slice A0_3 l0_3.length c0_3] 66 (0, 0)) (Far.Ba BK393.out)) : gb393 ≠ gb404)); have n8_ := Aside0.mk ((by rw [hg]; exact Nat.ne_of_gt (blk_lt (g := gb393) (o := .cells #[.int .u64 a0_0, .slice A0_1 l0_1.length c0_1, .int .u32 a0_2, .slice A0_3 l0_3.length c0_3] 66 (0, 0)) (Far.Ba BK393.out)) : gb404 ≠ gb393)); clear HO399 HO403 BK393 HB; have HO399 := n0_; have HO403 := n1_; have BK393 := n2_; have HB := n3_; have BK404 := n4_; have GW404 := n5_; have GE404 := n6_; have NB393_404 := n7_; have NB404_393 := n8_; clear n0_ n1_ n2_ n3_ n4_ n5_ n6_ n7_ n8_; clear hb hbox hg; have hnb53 := NB404_393.out; have hnc53 := NB393_404.out; have hcz54_0 : w52.cell? ⟨gb404, 0, none⟩ = some (.int .u64 0) := (blk_cell BK404.out 0).trans rfl; have hcz54_1 : w52.cell? ⟨gb404, 1, none⟩ = some (.slice none 0 0) := (blk_cell BK404.out 1).trans rfl; have hcz54_2 : w52.cell? ⟨gb404, 2, none⟩ = some (.int .u32 0) := (blk_cell BK404.out 2).trans rfl; have hcz54_3 : w52.cell? ⟨gb404, 3, none⟩ = some (.slice none 0 0) := (blk_cell BK404.out 3).trans rfl; have hfz54_0 := blk_frozen BK404.out 0; have hfz54_1 := blk_frozen BK404.out 1; have hfz54_2 := blk_frozen BK404.out 2; have hfz54_3 := blk_frozen BK404.out 3; obtain ⟨Ao55, co55, eo55⟩ := Kd.R_slice HO399.out; subst eo55; obtain ⟨Ao56, co56, eo56⟩ := Kd.R_slice HO403.out; subst eo56) | ((with_reducible refine gate_callee (f := 41) rfl ?_); refine goesL_ (some 49) rfl rfl Try.func41 (by kernel_rfl) rfl #[.agg #[.int .u64 t396, .slice Ao55 t397.length co55, .int .u32 t400, .slice Ao56 t401.length co56]] rfl (by (try simp only [List.map_toArray, List.map_cons, List.map_nil]); first | done | rfl | (simp only [List.length_drop, List.length_take]; rfl)) ?_; (with_reducible refine (scullerref14_Encode.calls kj8 t396 _ _ t397 t400 _ _ t401 t405 t408 _ ?side1 ?side2 ?side3 ?side4 A23.out).mono ?_); (case side1 => refine (Kd.R_reads' (e := 3) (base := w.heap.size) (ok := fun k_ => True) (n := t397.length) (c := co55) ?_).2.2; exact (Far.Ra (Far.far4 HO399.out BK404.out (by decide) (.int .u64 t396) (.slice Ao55 t397.length co55) (.int .u32 t400) (.slice Ao56 t401.length co56)))); (case side2 => exact (Kd.R_reads' HO399.out).2.1); (case side3 => refine (Kd.R_reads' (e := 5) (base := w.heap.size) (ok := fun k_ => True) (n := t401.length) (c := co56) ?_).2.2; exact (Far.Ra (Far.far4 HO403.out BK404.out (by decide) (.int .u64 t396) (.slice Ao55 t397.length co55) (.int .u32 t400) (.slice Ao56 t401.length co56)))); (case side4 => exact (Kd.R_reads' HO403.out).2.1); rintro e w57 ⟨v406, rfl, ho0, hb⟩; refine ⟨_, rfl, ?_⟩; have n0_ := Aside0.mk (Kd.R_below (Far.Ra (Far.far4 HO399.out BK404.out (by decide) (.int .u64 t396) (.slice Ao55 t397.length co55) (.int .u32 t400) (.slice Ao56 t401.length co56))) hb); have n1_ := Aside0.mk (Kd.R_elder' (Far.Ra (Far.far4 HO403.out BK404.out (by decide) (.int .u64 t396) (.slice Ao55 t397.length co55) (.int .u32 t400) (.slice Ao56 t401.length co56))) (Kd.R_base ho0) hb); have n2_ := Aside0.mk (Kd.R_lower (Kd.R_new' ho0 (Kd.R_lt (Far.Ra (Far.far4 HO403.out BK404.out (by decide) (.int .u64 t396) (.slice Ao55 t397.length co55) (.int .u32 t400) (.slice Ao56 t401.length co56))))) (below_size (by repeat (first | (with_reducible first | exact HB.out | apply below_alloc | apply pw_below_drewN | apply below_drew1 | refine below_set ?_ GE393.out | refine below_set ?_ GE404.out) | exact HB.out)))); have n3_ := Aside0.mk (blk_below (g := gb393) (o := .cells #[.int .u64 a0_0, .slice A0_1 l0_1.length c0_1, .int .u32 a0_2, .slice A0_3 l0_3.length c0_3] 66 (0, 0)) (by (with_reducible repeat (first | refine blk_drewN ?_ _ | refine blk_drew ?_ | refine blk_alloc ?_ _)); refine blk_far ?_ NB393_404.out _; (with_reducible repeat (first | refine blk_drewN ?_ _ | refine blk_drew ?_ | refine blk_alloc ?_ _)); refine blk_far ?_ NB393_404.out _; (with_reducible repeat (first | refine blk_drewN ?_ _ | refine blk_drew ?_ | refine blk_alloc ?_ _)); refine blk_far ?_ NB393_404.out _; (with_reducible repeat (first | refine blk_drewN ?_ _ | refine blk_drew ?_ | refine blk_alloc ?_ _)); refine blk_far ?_ NB393_404.out _; (with_reducible repeat (first | refine blk_drewN ?_ _ | refine blk_drew ?_ | refine blk_alloc ?_ _)); exact BK393.out) hb); have n4_ := Aside0.mk (blk_below (g := gb404) (o := .cells #[.int .u64 t396, .slice Ao55 t397.length co55, .int .u32 t400, .slice Ao56 t401.length co56] 66 (0, 0)) (by (with_reducible repeat (first | refine blk_drewN ?_ _ | refine blk_drew ?_ | refine blk_alloc ?_ _)); refine blk_put (cs := #[.int .u64 t396, .slice Ao55 t397.length co55, .int .u32 t400, .slice none 0 0]) ?_ 3 _ rfl; (with_reducible repeat (first | refine blk_drewN ?_ _ | refine blk_drew ?_ | refine blk_alloc ?_ _)); refine blk_put (cs := #[.int .u64 t396, .slice Ao55 t397.length co55, .int .u32 0, .slice none 0 0]) ?_ 2 _ rfl; (with_reducible repeat (first | refine blk_drewN ?_ _ | refine blk_drew ?_ | refine blk_alloc ?_ _)); refine blk_put (cs := #[.int .u64 t396, .slice none 0 0, .int .u32 0, .slice none 0 0]) ?_ 1 _ rfl; (with_reducible repeat (first | refine blk_drewN ?_ _ | refine blk_drew ?_ | refine blk_alloc ?_ _)); refine blk_put (cs := #[.int .u64 0, .slice none 0 0, .int .u32 0, .slice none 0 0]) ?_ 0 _ rfl; (with_reducible repeat (first | refine blk_drewN ?_ _ | refine blk_drew ?_ | refine blk_alloc ?_ _)); exact BK404.out) hb); have n5_ := Aside0.mk (below_step (by repeat (first | (with_reducible first | exact HB.out | apply below_alloc | apply pw_below_drewN | apply below_drew1 | refine below_set ?_ GE393.out | refine below_set ?_ GE404.out) | exact HB.out)) hb); clear HO399 HO403 BK393 BK404 HB; have HO399 := n0_; have HO403 := n1_; have HO407 := n2_; have BK393 := n3_; have BK404 := n4_; have HB := n5_; clear n0_ n1_ n2_ n3_ n4_ n5_; (try clear hb); (try clear hb2); (try clear hk); (try clear hi); (try clear ho0); obtain ⟨Ao59, co59, eo59⟩ := Kd.R_slice HO407.out; subst eo59) | ((with_reducible refine gate_builtin (b := .append) (xs := #[.tmp 52, .tmp 53]) rfl ?_); (try (refine gate_guard (by rfl) ?_; dsimp only)); at_builtin; refine Kd.R_append_rows (Kd.int .u8) (w0 := w) w.heap.size rfl (.tmp 52) (.tmp 53) 22 5 (.int .u8 0) 1 rfl Try.underlying22 info5 rfl (by decide) (by omega) (.slice none 0 0) ([] : List Int) t405 _ _ _ (fun k_ => some k_ ≠ (.slice Ao56 t401.length co56 : Value).ownBlock ∧ some k_ ≠ (.slice Ao59 t405.length co59 : Value).ownBlock) (fun _ => False) rfl rfl ?aO ?aR (fun _ _ h => h) (fun _ h => h.elim) ?aF ?aB ?aS ?aL ?_; (case aR => repeat (first | exact (Kd.R_reads' HO407.out).2.2 | (with_reducible refine Kd.C_alloc ?_ _) | (with_reducible refine Kd.C_drewN ?_ _) | (with_reducible refine Kd.C_drew ?_))); (case aB => exact (by repeat (first | (with_reducible first | exact HB.out | apply below_alloc | apply pw_below_drewN | apply below_drew1 | refine below_set ?_ GE393.out | refine below_set ?_ GE404.out) | exact HB.out))); (case aF => exact (fun k_ hk => ⟨Kd.fresh' (Kd.R_lt (Far.Ra HO403.out)) k_ hk, Kd.fresh' (Kd.R_lt (Far.Ra HO407.out)) k_ hk⟩)); (case aO => exact ((Kd.R_nil _ _ _ _ (fun k_ => some k_ ≠ (.slice Ao56 t401.length co56 : Value).ownBlock ∧ some k_ ≠ (.slice Ao59 t405.length co59 : Value).ownBlock)))); (case aS => exact (below_size (by repeat (first | (with_reducible first | exact HB.out | apply below_alloc | apply pw_below_drewN | apply below_drew1 | refine below_set ?_ GE393.out | refine below_set ?_ GE404.out) | exact HB.out)))); (case aL => have := LMc24.out; omega); intro v410 w58 ho hb hg hat; rw [← Ny409.out] at ho; have n0_ := Aside0.mk (blk_grown (g := gb393) (o := .cells #[.int .u64 a0_0, .slice A0_1 l0_1.length c0_1, .int .u32 a0_2, .slice A0_3 l0_3.length c0_3] 66 (0, 0)) (Far.Ba BK393.out) hg (by simp [Value.ownBlock])); have n1_ := Aside0.mk (Kd.R_grown (Far.Ra HO399.out) hg (fun _ _ => by simp [Value.ownBlock])); have n2_ := Aside0.mk (Kd.R_after (Kd.R_apart_nil (Far.Ra HO403.out)) hg hat); have n3_ := Aside0.mk (blk_grown (g := gb404) (o := .cells #[.int .u64 t396, .slice Ao55 t397.length co55, .int .u32 t400, .slice Ao56 t401.length co56] 66 (0, 0)) (Far.Ba BK404.out) hg (by simp [Value.ownBlock])); have n4_ := Aside0.mk (Kd.R_after (Kd.R_apart_nil (Far.Ra HO407.out)) hg hat); have n5_ := Aside0.mk (hb); have n6_ := Aside0.mk (ho); clear BK393 HO399 HO403 BK404 HO407 HB; have BK393 := n0_; have HO399 := n1_; have HO403 := n2_; have BK404 := n3_; have HO407 := n4_; have HB := n5_; have HO411 := n6_; clear n0_ n1_ n2_ n3_ n4_ n5_ n6_; clear ho hb hg hat; obtain ⟨Ao60, co60, eo60⟩ := Kd.R_slice HO411.out; subst eo60; have p29 : 0 ≤ ((ji26) : Int) := of_decide_eq_true (by first | (with_reducible assumption) | assumption); have q29 : ((ji26) : Int) < ((y409.length : Int) : Int) := of_decide_eq_true (by first | (with_reducible assumption) | assumption); obtain ⟨go29, co29, eo29, gb29, gl29, cl29, HG29⟩ := Kd.R_form HO411.out (by omega); (first | cases eo29 | (injection eo29 with ea_ en_ ec_; (first | subst ea_ | (injection ea_ with ea_; subst ea_)); subst ec_; clear en_)); have GB29 := Aside0.mk gb29; have GG29 := Aside0.mk HG29; clear gb29 gl29 HG29; obtain ⟨hx29_0, hf29_0⟩ := Kd.R_celln 0 HO411.out ((ji26) : Int) p29 q29; replace p29 := eq_true p29; replace q29 := eq_true q29; obtain ⟨hy61_, hz61_⟩ := Kd.R_celln 0 HO411.out ((ji26) : Int) (of_decide_eq_true (by first | (with_reducible assumption) | assumption)) (of_decide_eq_true (by first | (with_reducible assumption) | assumption)); have HP61 := Kd.R_putg HO411.out ((ji26) : Int) a7) | ((with_reducible refine gate_store (t := 5) (p := 62) rfl ?_); refine store_event (t := 5) (p := 62) (v := ?vo_w62) (w1 := (w58.setCell ⟨go29, ((ji26) : Int).toNat, none⟩ (.int .u8 a7))) ?hg ?ho ?hn ?hr ?_; (case ho => rfl); (case hg => rfl); (case hn => rfl); (case hr => first | (go_simp; done) | (go_simp; rfl)); intro w62 hw; have hg : w58.grownBy w62 (some go29) := (by rw [hw]; exact HP61.2); have hp_ : Kd.R (Kd.int .u8) 5 w62 w.heap.size (fun k_ => some k_ ≠ (.slice Ao56 t401.length co56 : Value).ownBlock ∧ some k_ ≠ (.slice Ao59 t405.length co59 : Value).ownBlock) (.slice (some ⟨go29, 0, none⟩) y409.length co60) y412 := (by rw [hw, Ny412.out]; exact HP61.1); clear HP61; have n0_ := Aside0.mk (blk_grown (g := gb393) (o := .cells #[.int .u64 a0_0, .slice A0_1 l0_1.length c0_1, .int .u32 a0_2, .slice A0_3 l0_3.length c0_3] 66 (0, 0)) (Far.Ba BK393.out) hg (Kd.R_ne HO411.out BK393.out (by decide))); have n1_ := Aside0.mk (Kd.R_over' (v := (.slice (some ⟨go29, 0, none⟩) y409.length co60)) (Far.Ra HO399.out) (Kd.R_typed HO411.out) (by decide) hg); have n2_ := Aside0.mk (Kd.R_after (v := (.slice (some ⟨go29, 0, none⟩) y409.length co60)) (v1 := (.slice (some ⟨go29, 0, none⟩) y409.length co60)) (ok := (fun k_ => some k_ ≠ (.slice Ao59 t405.length co59 : Value).ownBlock)) (Far.Ra (Kd.R_mono HO403.out (fun _ hk => ⟨hk.1.2, hk.2⟩))) hg (.inl rfl)); have n3_ := Aside0.mk (blk_grown (g := gb404) (o := .cells #[.int .u64 t396, .slice Ao55 t397.length co55, .int .u32 t400, .slice Ao56 t401.length co56] 66 (0, 0)) (Far.Ba BK404.out) hg (Kd.R_ne HO411.out BK404.out (by decide))); have n4_ := Aside0.mk (Kd.R_after (v := (.slice (some ⟨go29, 0, none⟩) y409.length co60)) (v1 := (.slice (some ⟨go29, 0, none⟩) y409.length co60)) (ok := (fun k_ => some k_ ≠ (.slice Ao56 t401.length co56 : Value).ownBlock)) (Far.Ra (Kd.R_mono HO407.out (fun _ hk => ⟨hk.1.2, hk.2⟩))) hg (.inl rfl)); have n5_ := Aside0.mk (hp_); have n6_ := Aside0.mk ((by rw [hw]; exact below_set (HB.out) GB29.out : Below w.heap.size w w62)); clear BK393 HO399 HO403 BK404 HO407 HO411 HB; have BK393 := n0_; have HO399 := n1_; have HO403 := n2_; have BK404 := n3_; have HO407 := n4_; have HO411 := n5_; have HB := n6_; clear n0_ n1_ n2_ n3_ n4_ n5_ n6_; clear hg hw hp_))
                                  have n0_ := Aside0.mk (Kd.R_drew HO399.out)
                                  have n1_ := Aside0.mk (Kd.R_drew HO403.out)
                                  have n2_ := Aside0.mk (Kd.R_drew HO407.out)
                                  have n3_ := Aside0.mk (Kd.R_drew HO411.out)
                                  have n4_ := Aside0.mk (blk_drew BK393.out)
                                  have n5_ := Aside0.mk (blk_drew BK404.out)
                                  have n6_ := Aside0.mk (below_drew1 HB.out)
                                  clear HO399 HO403 HO407 HO411 BK393 BK404 HB
                                  have HO399 := n0_
                                  have HO403 := n1_
                                  have HO407 := n2_
                                  have HO411 := n3_
                                  have BK393 := n4_
                                  have BK404 := n5_
                                  have HB := n6_
                                  clear n0_ n1_ n2_ n3_ n4_ n5_ n6_
                                  refine start_ (n := 42) (S := fun w' => w'.cell? ⟨gb393, 0, none⟩ = some (.int .u64 a0_0) ∧ w'.cell? ⟨gb393, 1, none⟩ = some (.slice A0_1 l0_1.length c0_1) ∧ w'.cell? ⟨gb393, 2, none⟩ = some (.int .u32 a0_2) ∧ w'.cell? ⟨gb393, 3, none⟩ = some (.slice A0_3 l0_3.length c0_3) ∧ w'.cell? ⟨gb404, 0, none⟩ = some (.int .u64 t396) ∧ w'.cell? ⟨gb404, 1, none⟩ = some (.slice Ao55 t397.length co55) ∧ w'.cell? ⟨gb404, 2, none⟩ = some (.int .u32 t400) ∧ w'.cell? ⟨gb404, 3, none⟩ = some (.slice Ao56 t401.length co56)) (ds := []) #[false, false, false, false, false, false, false, false, false, false, false, false, false, false, false, false, false, false, false, false, false, false, false, false, false, false, false, false, false, false, false, false, false, false, false, false, false, false, false, false, false, false] (by kernel_rfl) rfl rfl ⟨(blk_cell BK393.out 0).trans rfl, (blk_cell BK393.out 1).trans rfl, (blk_cell BK393.out 2).trans rfl, (blk_cell BK393.out 3).trans rfl, (blk_cell BK404.out 0).trans rfl, (blk_cell BK404.out 1).trans rfl, (blk_cell BK404.out 2).trans rfl, (blk_cell BK404.out 3).trans rfl⟩ (fun hHeld => ?_); refine with_tabW scullerlaw14_TokenCodes.tab8 scullerlaw14_TokenCodes.bits8 (fun HT_ HW_ => ?_)
                                  generalize w62.drew = w63 at HO399 HO403 HO407 HO411 BK393 BK404 HB hHeld ⊢
                                  refine take_ (i := 0) (N := some 63) (v := ?_) (a' := ?_) #[true, false, false, false, false, false, false, false, false, false, false, false, false, false, false, false, false, false, false, false, false, false, false, false, false, false, false, false, false, false, false, false, false, false, false, false, false, false, false, false, false, false] rfl rfl (take_ofW HT_.out HW_.out (by kernel_rfl)) (fun _ _ _ h => h) (Or.inl ⟨by rfl, ?_⟩) hHeld ?_ ?_; rotate_left; (rintro w' ⟨s0, s1, s2, s3, s4, s5, s6, s7⟩; go_simp; with_reducible rfl); rotate_left; (simp only [Act.put, List.setIfInBounds_toArray, List.set_cons_zero, List.set_cons_succ, i64_w, i32_w]; rfl)
                                  refine one_ (i := 1) (N := some 64) #[true, true, false, false, false, false, false, false, false, false, false, false, false, false, false, false, false, false, false, false, false, false, false, false, false, false, false, false, false, false, false, false, false, false, false, false, false, false, false, false, false, false] rfl rfl (one_of HT_.out (by kernel_rfl)) (by decide) (fun K hK => ?_)
                                  refine goes_ Try.func42 (by kernel_rfl) rfl #[.agg #[.int .u64 a0_0, .slice A0_1 l0_1.length c0_1, .int .u32 a0_2, .slice A0_3 l0_3.length c0_3]] (by rfl) rfl rfl (by (try simp only [List.map_toArray, List.map_cons, List.map_nil]); first | done | rfl | (simp only [List.length_drop, List.length_take]; rfl)) ?_
                                  with_reducible refine (scullerlaw14_encodes.calls kj8 a0_0 _ _ l0_1 a0_2 _ _ l0_3 true _ ?side1 ?side2 ?side3 ?side4 A30.out).mono ?_
                                  (case side1 => repeat (first | exact (Kd.C_below HR0_1.out HB.out) | (with_reducible refine Kd.C_alloc ?_ _) | (with_reducible refine Kd.C_drewN ?_ _) | (with_reducible refine Kd.C_drew ?_)))
                                  (case side2 => exact HC0_1.out)
                                  (case side3 => repeat (first | exact (Kd.C_below HR0_3.out HB.out) | (with_reducible refine Kd.C_alloc ?_ _) | (with_reducible refine Kd.C_drewN ?_ _) | (with_reducible refine Kd.C_drew ?_)))
                                  (case side4 => exact HC0_3.out)
                                  rintro e w64 ⟨rfl, hb⟩
                                  refine ⟨_, rfl, ?_⟩
                                  have n0_ := Aside0.mk (Kd.R_below (Far.Ra HO399.out) hb)
                                  have n1_ := Aside0.mk (Kd.R_below (Far.Ra HO403.out) hb)
                                  have n2_ := Aside0.mk (Kd.R_below (Far.Ra HO407.out) hb)
                                  have n3_ := Aside0.mk (Kd.R_below (Far.Ra HO411.out) hb)
                                  have n4_ := Aside0.mk (blk_below (g := gb393) (o := .cells #[.int .u64 a0_0, .slice A0_1 l0_1.length c0_1, .int .u32 a0_2, .slice A0_3 l0_3.length c0_3] 66 (0, 0)) (Far.Ba BK393.out) hb)
                                  have n5_ := Aside0.mk (blk_below (g := gb404) (o := .cells #[.int .u64 t396, .slice Ao55 t397.length co55, .int .u32 t400, .slice Ao56 t401.length co56] 66 (0, 0)) (Far.Ba BK404.out) hb)
                                  have n6_ := Aside0.mk (below_step (by repeat (first | (with_reducible first | exact HB.out | apply below_alloc | apply pw_below_drewN | apply below_drew1 | refine below_set ?_ GE393.out | refine below_set ?_ GE404.out) | exact HB.out)) hb)
                                  clear HO399 HO403 HO407 HO411 BK393 BK404 HB
                                  have HO399 := n0_
                                  have HO403 := n1_
                                  have HO407 := n2_
                                  have HO411 := n3_
                                  have BK393 := n4_
                                  have BK404 := n5_
                                  have HB := n6_
                                  clear n0_ n1_ n2_ n3_ n4_ n5_ n6_
                                  (try clear hb)
                                  (try clear hb2)
                                  (try clear hk)
                                  (try clear hi)
                                  refine hK.out _ _ ⟨(blk_cell BK393.out 0).trans rfl, (blk_cell BK393.out 1).trans rfl, (blk_cell BK393.out 2).trans rfl, (blk_cell BK393.out 3).trans rfl, (blk_cell BK404.out 0).trans rfl, (blk_cell BK404.out 1).trans rfl, (blk_cell BK404.out 2).trans rfl, (blk_cell BK404.out 3).trans rfl⟩ (fun hHeld => ?_)
                                  clear hK K
                                  refine norm_ (a' := ?_) ?_ ?_
                                  rotate_left
                                  · show Act.put _ (some 64) _ = _
                                    simp only [Act.put, List.setIfInBounds_toArray, List.set_cons_zero, List.set_cons_succ, i64_w, i32_w]
                                    rfl
                                  refine pure_ (i := 2) (N := some 65) (v := ?_) (a' := ?_) #[true, true, true, false, false, false, false, false, false, false, false, false, false, false, false, false, false, false, false, false, false, false, false, false, false, false, false, false, false, false, false, false, false, false, false, false, false, false, false, false, false, false] rfl rfl (any_of HT_.out (by kernel_rfl)) (fun _ _ _ h => h) (Or.inl ⟨by rfl, ?_⟩) ?_ ?_; rotate_left; (intro w'; go_simp; with_reducible rfl); rotate_left; (simp only [Act.put, List.setIfInBounds_toArray, List.set_cons_zero, List.set_cons_succ, i64_w, i32_w]; rfl)
                                  refine take_ (i := 3) (N := some 66) (v := ?_) (a' := ?_) #[true, true, true, true, false, false, false, false, false, false, false, false, false, false, false, false, false, false, false, false, false, false, false, false, false, false, false, false, false, false, false, false, false, false, false, false, false, false, false, false, false, false] rfl rfl (take_ofW HT_.out HW_.out (by kernel_rfl)) (fun _ _ _ h => h) (Or.inl ⟨by rfl, ?_⟩) hHeld ?_ ?_; rotate_left; (rintro w' ⟨s0, s1, s2, s3, s4, s5, s6, s7⟩; go_simp; with_reducible rfl); rotate_left; (simp only [Act.put, List.setIfInBounds_toArray, List.set_cons_zero, List.set_cons_succ, i64_w, i32_w]; rfl)
                                  refine one_ (i := 4) (N := some 67) #[true, true, true, true, true, false, false, false, false, false, false, false, false, false, false, false, false, false, false, false, false, false, false, false, false, false, false, false, false, false, false, false, false, false, false, false, false, false, false, false, false, false] rfl rfl (one_of HT_.out (by kernel_rfl)) (by decide) (fun K hK => ?_)
                                  refine goes_ Try.func42 (by kernel_rfl) rfl #[.agg #[.int .u64 t396, .slice Ao55 t397.length co55, .int .u32 t400, .slice Ao56 t401.length co56]] (by rfl) rfl rfl (by (try simp only [List.map_toArray, List.map_cons, List.map_nil]); first | done | rfl | (simp only [List.length_drop, List.length_take]; rfl)) ?_
                                  with_reducible refine (scullerlaw14_encodes.calls kj8 t396 _ _ t397 t400 _ _ t401 true _ ?side1 ?side2 ?side3 ?side4 A32.out).mono ?_
                                  (case side1 => repeat (first | exact (Kd.R_reads' HO399.out).2.2 | (with_reducible refine Kd.C_alloc ?_ _) | (with_reducible refine Kd.C_drewN ?_ _) | (with_reducible refine Kd.C_drew ?_)))
                                  (case side2 => exact (Kd.R_reads' HO399.out).2.1)
                                  (case side3 => repeat (first | exact (Kd.R_reads' HO403.out).2.2 | (with_reducible refine Kd.C_alloc ?_ _) | (with_reducible refine Kd.C_drewN ?_ _) | (with_reducible refine Kd.C_drew ?_)))
                                  (case side4 => exact (Kd.R_reads' HO403.out).2.1)
                                  rintro e w65 ⟨rfl, hb⟩
                                  refine ⟨_, rfl, ?_⟩
                                  have n0_ := Aside0.mk (Kd.R_below (Far.Ra HO399.out) hb)
                                  have n1_ := Aside0.mk (Kd.R_below (Far.Ra HO403.out) hb)
                                  have n2_ := Aside0.mk (Kd.R_below (Far.Ra HO407.out) hb)
                                  have n3_ := Aside0.mk (Kd.R_below (Far.Ra HO411.out) hb)
                                  have n4_ := Aside0.mk (blk_below (g := gb393) (o := .cells #[.int .u64 a0_0, .slice A0_1 l0_1.length c0_1, .int .u32 a0_2, .slice A0_3 l0_3.length c0_3] 66 (0, 0)) (Far.Ba BK393.out) hb)
                                  have n5_ := Aside0.mk (blk_below (g := gb404) (o := .cells #[.int .u64 t396, .slice Ao55 t397.length co55, .int .u32 t400, .slice Ao56 t401.length co56] 66 (0, 0)) (Far.Ba BK404.out) hb)
                                  have n6_ := Aside0.mk (below_step (by repeat (first | (with_reducible first | exact HB.out | apply below_alloc | apply pw_below_drewN | apply below_drew1 | refine below_set ?_ GE393.out | refine below_set ?_ GE404.out) | exact HB.out)) hb)
                                  clear HO399 HO403 HO407 HO411 BK393 BK404 HB
                                  have HO399 := n0_
                                  have HO403 := n1_
                                  have HO407 := n2_
                                  have HO411 := n3_
                                  have BK393 := n4_
                                  have BK404 := n5_
                                  have HB := n6_
                                  clear n0_ n1_ n2_ n3_ n4_ n5_ n6_
                                  (try clear hb)
                                  (try clear hb2)
                                  (try clear hk)
                                  (try clear hi)
                                  refine hK.out _ _ ⟨(blk_cell BK393.out 0).trans rfl, (blk_cell BK393.out 1).trans rfl, (blk_cell BK393.out 2).trans rfl, (blk_cell BK393.out 3).trans rfl, (blk_cell BK404.out 0).trans rfl, (blk_cell BK404.out 1).trans rfl, (blk_cell BK404.out 2).trans rfl, (blk_cell BK404.out 3).trans rfl⟩ (fun hHeld => ?_)
                                  clear hK K
                                  refine norm_ (a' := ?_) ?_ ?_
                                  rotate_left
                                  · show Act.put _ (some 67) _ = _
                                    simp only [Act.put, List.setIfInBounds_toArray, List.set_cons_zero, List.set_cons_succ, i64_w, i32_w]
                                    rfl
                                  refine pure_ (i := 5) (N := some 68) (v := ?_) (a' := ?_) #[true, true, true, true, true, true, false, false, false, false, false, false, false, false, false, false, false, false, false, false, false, false, false, false, false, false, false, false, false, false, false, false, false, false, false, false, false, false, false, false, false, false] rfl rfl (any_of HT_.out (by kernel_rfl)) (fun _ _ _ h => h) (Or.inl ⟨by rfl, ?_⟩) ?_ ?_; rotate_left; (intro w'; go_simp; with_reducible rfl); rotate_left; (simp only [Act.put, List.setIfInBounds_toArray, List.set_cons_zero, List.set_cons_succ, i64_w, i32_w]; rfl)
                                  refine pure_ (i := 6) (N := some 69) (v := ?_) (a' := ?_) #[true, true, true, true, true, true, true, false, false, false, false, false, false, false, false, false, false, false, false, false, false, false, false, false, false, false, false, false, false, false, false, false, false, false, false, false, false, false, false, false, false, false] rfl rfl (any_of HT_.out (by kernel_rfl)) (fun _ _ _ h => h) (Or.inl ⟨by rfl, ?_⟩) ?_ ?_; rotate_left; (intro w'; go_simp; with_reducible rfl); rotate_left; (simp only [Act.put, List.setIfInBounds_toArray, List.set_cons_zero, List.set_cons_succ, i64_w, i32_w]; rfl)
                                  refine pure_ (i := 7) (N := some 70) (v := ?_) (a' := ?_) #[true, true, true, true, true, true, true, true, false, false, false, false, false, false, false, false, false, false, false, false, false, false, false, false, false, false, false, false, false, false, false, false, false, false, false, false, false, false, false, false, false, false] rfl rfl (any_of HT_.out (by kernel_rfl)) (fun _ _ _ h => h) (Or.inl ⟨by rfl, ?_⟩) ?_ ?_; rotate_left; (intro w'; go_simp; with_reducible rfl); rotate_left; (simp only [Act.put, List.setIfInBounds_toArray, List.set_cons_zero, List.set_cons_succ, i64_w, i32_w]; rfl)
                                  refine one_ (i := 8) (N := some 71) #[true, true, true, true, true, true, true, true, true, false, false, false, false, false, false, false, false, false, false, false, false, false, false, false, false, false, false, false, false, false, false, false, false, false, false, false, false, false, false, false, false, false] rfl rfl (one_of HT_.out (by kernel_rfl)) (by decide) (fun K hK => ?_)
                                  refine goes_ Try.func43 (by kernel_rfl) rfl #[.slice A1 l1.length c1] (by rfl) rfl rfl (by (try simp only [List.map_toArray, List.map_cons, List.map_nil]); first | done | rfl | (simp only [List.length_drop, List.length_take]; rfl)) ?_
                                  with_reducible refine (scullerlaw14_decodes.calls kj8 _ _ l1 true _ ?side1 ?side2 A34.out).mono ?_
                                  (case side1 => repeat (first | exact (Kd.C_below HR1.out HB.out) | (with_reducible refine Kd.C_alloc ?_ _) | (with_reducible refine Kd.C_drewN ?_ _) | (with_reducible refine Kd.C_drew ?_)))
                                  (case side2 => exact HC1.out)
                                  rintro e w66 ⟨rfl, hb⟩
                                  refine ⟨_, rfl, ?_⟩
                                  have n0_ := Aside0.mk (Kd.R_below (Far.Ra HO399.out) hb)
                                  have n1_ := Aside0.mk (Kd.R_below (Far.Ra HO403.out) hb)
                                  have n2_ := Aside0.mk (Kd.R_below (Far.Ra HO407.out) hb)
                                  have n3_ := Aside0.mk (Kd.R_below (Far.Ra HO411.out) hb)
                                  have n4_ := Aside0.mk (blk_below (g := gb393) (o := .cells #[.int .u64 a0_0, .slice A0_1 l0_1.length c0_1, .int .u32 a0_2, .slice A0_3 l0_3.length c0_3] 66 (0, 0)) (Far.Ba BK393.out) hb)
                                  have n5_ := Aside0.mk (blk_below (g := gb404) (o := .cells #[.int .u64 t396, .slice Ao55 t397.length co55, .int .u32 t400, .slice Ao56 t401.length co56] 66 (0, 0)) (Far.Ba BK404.out) hb)
                                  have n6_ := Aside0.mk (below_step (by repeat (first | (with_reducible first | exact HB.out | apply below_alloc | apply pw_below_drewN | apply below_drew1 | refine below_set ?_ GE393.out | refine below_set ?_ GE404.out) | exact HB.out)) hb)
                                  clear HO399 HO403 HO407 HO411 BK393 BK404 HB
                                  have HO399 := n0_
                                  have HO403 := n1_
                                  have HO407 := n2_
                                  have HO411 := n3_
                                  have BK393 := n4_
                                  have BK404 := n5_
                                  have HB := n6_
                                  clear n0_ n1_ n2_ n3_ n4_ n5_ n6_
                                  (try clear hb)
                                  (try clear hb2)
                                  (try clear hk)
                                  (try clear hi)
                                  refine hK.out _ _ ⟨(blk_cell BK393.out 0).trans rfl, (blk_cell BK393.out 1).trans rfl, (blk_cell BK393.out 2).trans rfl, (blk_cell BK393.out 3).trans rfl, (blk_cell BK404.out 0).trans rfl, (blk_cell BK404.out 1).trans rfl, (blk_cell BK404.out 2).trans rfl, (blk_cell BK404.out 3).trans rfl⟩ (fun hHeld => ?_)
                                  clear hK K
                                  refine norm_ (a' := ?_) ?_ ?_
                                  rotate_left
                                  · show Act.put _ (some 71) _ = _
                                    simp only [Act.put, List.setIfInBounds_toArray, List.set_cons_zero, List.set_cons_succ, i64_w, i32_w]
                                    rfl
                                  refine pure_ (i := 9) (N := some 72) (v := ?_) (a' := ?_) #[true, true, true, true, true, true, true, true, true, true, false, false, false, false, false, false, false, false, false, false, false, false, false, false, false, false, false, false, false, false, false, false, false, false, false, false, false, false, false, false, false, false] rfl rfl (any_of HT_.out (by kernel_rfl)) (fun _ _ _ h => h) (Or.inl ⟨by rfl, ?_⟩) ?_ ?_; rotate_left; (intro w'; go_simp; with_reducible rfl); rotate_left; (simp only [Act.put, List.setIfInBounds_toArray, List.set_cons_zero, List.set_cons_succ, i64_w, i32_w]; rfl)
                                  refine pure_ (i := 10) (N := some 73) (v := ?_) (a' := ?_) #[true, true, true, true, true, true, true, true, true, true, true, false, false, false, false, false, false, false, false, false, false, false, false, false, false, false, false, false, false, false, false, false, false, false, false, false, false, false, false, false, false, false] rfl rfl (any_of HT_.out (by kernel_rfl)) (fun _ _ _ h => h) (Or.inl ⟨by rfl, ?_⟩) ?_ ?_; rotate_left; (intro w'; go_simp; with_reducible rfl); rotate_left; (simp only [Act.put, List.setIfInBounds_toArray, List.set_cons_zero, List.set_cons_succ, i64_w, i32_w]; rfl)
                                  refine pure_ (i := 11) (N := some 74) (v := ?_) (a' := ?_) #[true, true, true, true, true, true, true, true, true, true, true, true, false, false, false, false, false, false, false, false, false, false, false, false, false, false, false, false, false, false, false, false, false, false, false, false, false, false, false, false, false, false] rfl rfl (any_of HT_.out (by kernel_rfl)) (fun _ _ _ h => h) (Or.inl ⟨by rfl, ?_⟩) ?_ ?_; rotate_left; (intro w'; go_simp; with_reducible rfl); rotate_left; (simp only [Act.put, List.setIfInBounds_toArray, List.set_cons_zero, List.set_cons_succ, i64_w, i32_w]; rfl)
                                  refine one_ (i := 12) (N := some 75) #[true, true, true, true, true, true, true, true, true, true, true, true, true, false, false, false, false, false, false, false, false, false, false, false, false, false, false, false, false, false, false, false, false, false, false, false, false, false, false, false, false, false] rfl rfl (one_of HT_.out (by kernel_rfl)) (by decide) (fun K hK => ?_)
                                  refine goes_ Try.func43 (by kernel_rfl) rfl #[.slice Ao59 t405.length co59] (by rfl) rfl rfl (by (try simp only [List.map_toArray, List.map_cons, List.map_nil]); first | done | rfl | (simp only [List.length_drop, List.length_take]; rfl)) ?_
                                  with_reducible refine (scullerlaw14_decodes.calls kj8 _ _ t405 true _ ?side1 ?side2 A36.out).mono ?_
                                  (case side1 => repeat (first | exact (Kd.R_reads' HO407.out).2.2 | (with_reducible refine Kd.C_alloc ?_ _) | (with_reducible refine Kd.C_drewN ?_ _) | (with_reducible refine Kd.C_drew ?_)))
                                  (case side2 => exact (Kd.R_reads' HO407.out).2.1)
                                  rintro e w67 ⟨rfl, hb⟩
                                  refine ⟨_, rfl, ?_⟩
                                  have n0_ := Aside0.mk (Kd.R_below (Far.Ra HO399.out) hb)
                                  have n1_ := Aside0.mk (Kd.R_below (Far.Ra HO403.out) hb)
                                  have n2_ := Aside0.mk (Kd.R_below (Far.Ra HO407.out) hb)
                                  have n3_ := Aside0.mk (Kd.R_below (Far.Ra HO411.out) hb)
                                  have n4_ := Aside0.mk (blk_below (g := gb393) (o := .cells #[.int .u64 a0_0, .slice A0_1 l0_1.length c0_1, .int .u32 a0_2, .slice A0_3 l0_3.length c0_3] 66 (0, 0)) (Far.Ba BK393.out) hb)
                                  have n5_ := Aside0.mk (blk_below (g := gb404) (o := .cells #[.int .u64 t396, .slice Ao55 t397.length co55, .int .u32 t400, .slice Ao56 t401.length co56] 66 (0, 0)) (Far.Ba BK404.out) hb)
                                  have n6_ := Aside0.mk (below_step (by repeat (first | (with_reducible first | exact HB.out | apply below_alloc | apply pw_below_drewN | apply below_drew1 | refine below_set ?_ GE393.out | refine below_set ?_ GE404.out) | exact HB.out)) hb)
                                  clear HO399 HO403 HO407 HO411 BK393 BK404 HB
                                  have HO399 := n0_
                                  have HO403 := n1_
                                  have HO407 := n2_
                                  have HO411 := n3_
                                  have BK393 := n4_
                                  have BK404 := n5_
                                  have HB := n6_
                                  clear n0_ n1_ n2_ n3_ n4_ n5_ n6_
                                  (try clear hb)
                                  (try clear hb2)
                                  (try clear hk)
                                  (try clear hi)
                                  refine hK.out _ _ ⟨(blk_cell BK393.out 0).trans rfl, (blk_cell BK393.out 1).trans rfl, (blk_cell BK393.out 2).trans rfl, (blk_cell BK393.out 3).trans rfl, (blk_cell BK404.out 0).trans rfl, (blk_cell BK404.out 1).trans rfl, (blk_cell BK404.out 2).trans rfl, (blk_cell BK404.out 3).trans rfl⟩ (fun hHeld => ?_)
                                  clear hK K
                                  refine norm_ (a' := ?_) ?_ ?_
                                  rotate_left
                                  · show Act.put _ (some 75) _ = _
                                    simp only [Act.put, List.setIfInBounds_toArray, List.set_cons_zero, List.set_cons_succ, i64_w, i32_w]
                                    rfl
                                  refine pure_ (i := 13) (N := some 76) (v := ?_) (a' := ?_) #[true, true, true, true, true, true, true, true, true, true, true, true, true, true, false, false, false, false, false, false, false, false, false, false, false, false, false, false, false, false, false, false, false, false, false, false, false, false, false, false, false, false] rfl rfl (any_of HT_.out (by kernel_rfl)) (fun _ _ _ h => h) (Or.inl ⟨by rfl, ?_⟩) ?_ ?_; rotate_left; (intro w'; go_simp; with_reducible rfl); rotate_left; (simp only [Act.put, List.setIfInBounds_toArray, List.set_cons_zero, List.set_cons_succ, i64_w, i32_w]; rfl)
                                  refine pure_ (i := 14) (N := some 77) (v := ?_) (a' := ?_) #[true, true, true, true, true, true, true, true, true, true, true, true, true, true, true, false, false, false, false, false, false, false, false, false, false, false, false, false, false, false, false, false, false, false, false, false, false, false, false, false, false, false] rfl rfl (any_of HT_.out (by kernel_rfl)) (fun _ _ _ h => h) (Or.inl ⟨by rfl, ?_⟩) ?_ ?_; rotate_left; (intro w'; go_simp; with_reducible rfl); rotate_left; (simp only [Act.put, List.setIfInBounds_toArray, List.set_cons_zero, List.set_cons_succ, i64_w, i32_w]; rfl)
                                  refine pure_ (i := 15) (N := some 78) (v := ?_) (a' := ?_) #[true, true, true, true, true, true, true, true, true, true, true, true, true, true, true, true, false, false, false, false, false, false, false, false, false, false, false, false, false, false, false, false, false, false, false, false, false, false, false, false, false, false] rfl rfl (any_of HT_.out (by kernel_rfl)) (fun _ _ _ h => h) (Or.inl ⟨by rfl, ?_⟩) ?_ ?_; rotate_left; (intro w'; go_simp; with_reducible rfl); rotate_left; (simp only [Act.put, List.setIfInBounds_toArray, List.set_cons_zero, List.set_cons_succ, i64_w, i32_w]; rfl)
                                  refine one_ (i := 16) (N := some 79) #[true, true, true, true, true, true, true, true, true, true, true, true, true, true, true, true, true, false, false, false, false, false, false, false, false, false, false, false, false, false, false, false, false, false, false, false, false, false, false, false, false, false] rfl rfl (one_of HT_.out (by kernel_rfl)) (by decide) (fun K hK => ?_)
                                  refine goes_ Try.func43 (by kernel_rfl) rfl #[.slice (some ⟨go29, 0, none⟩) y412.length co60] (by rfl) rfl rfl (by (try simp only [List.map_toArray, List.map_cons, List.map_nil]); first | done | (rw [show y412.length = y409.length from (Kd.R_reads' HO411.out).1.symm] <;> rfl) | rfl | (simp only [List.length_drop, List.length_take]; rfl)) ?_
                                  with_reducible refine (scullerlaw14_decodes.calls kj8 _ _ y412 true _ ?side1 ?side2 A38.out).mono ?_
                                  (case side1 => repeat (first | exact (Kd.R_reads' HO411.out).2.2 | (with_reducible refine Kd.C_alloc ?_ _) | (with_reducible refine Kd.C_drewN ?_ _) | (with_reducible refine Kd.C_drew ?_)))
                                  (case side2 => rw [show y412.length = y409.length from (Kd.R_reads' HO411.out).1.symm]; exact (Kd.R_reads' HO411.out).2.1)
                                  rintro e w68 ⟨rfl, hb⟩
                                  refine ⟨_, rfl, ?_⟩
                                  have n0_ := Aside0.mk (Kd.R_below (Far.Ra HO399.out) hb)
                                  have n1_ := Aside0.mk (Kd.R_below (Far.Ra HO403.out) hb)
                                  have n2_ := Aside0.mk (Kd.R_below (Far.Ra HO407.out) hb)
                                  have n3_ := Aside0.mk (Kd.R_below (Far.Ra HO411.out) hb)
                                  have n4_ := Aside0.mk (blk_below (g := gb393) (o := .cells #[.int .u64 a0_0, .slice A0_1 l0_1.length c0_1, .int .u32 a0_2, .slice A0_3 l0_3.length c0_3] 66 (0, 0)) (Far.Ba BK393.out) hb)
                                  have n5_ := Aside0.mk (blk_below (g := gb404) (o := .cells #[.int .u64 t396, .slice Ao55 t397.length co55, .int .u32 t400, .slice Ao56 t401.length co56] 66 (0, 0)) (Far.Ba BK404.out) hb)
                                  have n6_ := Aside0.mk (below_step (by repeat (first | (with_reducible first | exact HB.out | apply below_alloc | apply pw_below_drewN | apply below_drew1 | refine below_set ?_ GE393.out | refine below_set ?_ GE404.out) | exact HB.out)) hb)
                                  clear HO399 HO403 HO407 HO411 BK393 BK404 HB
                                  have HO399 := n0_
                                  have HO403 := n1_
                                  have HO407 := n2_
                                  have HO411 := n3_
                                  have BK393 := n4_
                                  have BK404 := n5_
                                  have HB := n6_
                                  clear n0_ n1_ n2_ n3_ n4_ n5_ n6_
                                  (try clear hb)
                                  (try clear hb2)
                                  (try clear hk)
                                  (try clear hi)
                                  have hlx69 := (Kd.R_reads' HO411.out).1
                                  have q69 : ((ji40) : Int) ≤ ((y409.length : Int) : Int) := of_decide_eq_true (by first | (with_reducible assumption) | assumption)
                                  obtain ⟨i069, hi069, _, hsz69, _⟩ := info_parts info5
                                  have hroom69 : y409.length ≤ co60 := (Kd.R_reads' HO411.out).2.1
                                  have hroomc69 : y412.length ≤ co60 := (by rw [← hlx69]; exact hroom69)
                                  have hC69 : Kd.C (Kd.int .u8) _ (some ⟨go29, 0, none⟩) y412.length y412 := (Kd.R_reads' HO411.out).2.2
                                  have hcut69 := cut_to (P := Try.prog) 22 5 .i64 Try.underlying22 hi069 (some ⟨go29, 0, none⟩) y409.length co60 (ji40) (of_decide_eq_true (by first | (with_reducible assumption) | assumption)) q69 hroom69
                                  have hr69 := Kd.C_take (m := ((ji40) : Int).toNat) hC69 (by omega)
                                  have hy69 : y418.length = ((ji40) : Int).toNat := (by rw [Ny418.out, List.length_take]; omega)
                                  rw [← Ny418.out] at hr69
                                  rw [← hy69] at hcut69
                                  have HR421 := Aside0.mk hr69
                                  have HC421 := Aside0.mk (show y418.length ≤ co60 from by omega)
                                  clear hr69 hC69 hroom69 hi069 hsz69 hroomc69
                                  have KY69 := Aside0.mk hy69
                                  clear hy69
                                  have KE69 := Aside0.mk hlx69
                                  have KL69 := Aside0.mk (show ((ji40) : Int).toNat ≤ y412.length from by omega)
                                  clear hlx69
                                  replace q69 := eq_true q69
                                  refine hK.out _ _ ⟨(blk_cell BK393.out 0).trans rfl, (blk_cell BK393.out 1).trans rfl, (blk_cell BK393.out 2).trans rfl, (blk_cell BK393.out 3).trans rfl, (blk_cell BK404.out 0).trans rfl, (blk_cell BK404.out 1).trans rfl, (blk_cell BK404.out 2).trans rfl, (blk_cell BK404.out 3).trans rfl⟩ (fun hHeld => ?_)
                                  clear hK K
                                  refine norm_ (a' := ?_) ?_ ?_
                                  rotate_left
                                  · show Act.put _ (some 79) _ = _
                                    simp only [Act.put, List.setIfInBounds_toArray, List.set_cons_zero, List.set_cons_succ, i64_w, i32_w]
                                    rfl
                                  refine pure_ (i := 17) (N := some 80) (v := ?_) (a' := ?_) #[true, true, true, true, true, true, true, true, true, true, true, true, true, true, true, true, true, true, false, false, false, false, false, false, false, false, false, false, false, false, false, false, false, false, false, false, false, false, false, false, false, false] rfl rfl (any_of HT_.out (by kernel_rfl)) (fun _ _ _ h => h) (Or.inl ⟨by rfl, ?_⟩) ?_ ?_; rotate_left; (intro w'; go_simp; with_reducible rfl); rotate_left; (simp only [Act.put, List.setIfInBounds_toArray, List.set_cons_zero, List.set_cons_succ, i64_w, i32_w]; rfl)
                                  refine pure_ (i := 18) (N := some 81) (v := ?_) (a' := ?_) #[true, true, true, true, true, true, true, true, true, true, true, true, true, true, true, true, true, true, true, false, false, false, false, false, false, false, false, false, false, false, false, false, false, false, false, false, false, false, false, false, false, false] rfl rfl (any_of HT_.out (by kernel_rfl)) (fun _ _ _ h => h) (Or.inl ⟨by rfl, ?_⟩) ?_ ?_; rotate_left; (intro w'; go_simp; with_reducible rfl); rotate_left; (simp only [Act.put, List.setIfInBounds_toArray, List.set_cons_zero, List.set_cons_succ, i64_w, i32_w]; rfl)
                                  refine pure_ (i := 19) (N := some 82) (v := ?_) (a' := ?_) #[true, true, true, true, true, true, true, true, true, true, true, true, true, true, true, true, true, true, true, true, false, false, false, false, false, false, false, false, false, false, false, false, false, false, false, false, false, false, false, false, false, false] rfl rfl (any_of HT_.out (by kernel_rfl)) (fun _ _ _ h => h) (Or.inl ⟨by rfl, ?_⟩) ?_ ?_; rotate_left; (intro w'; go_simp; with_reducible rfl); rotate_left; (simp only [Act.put, List.setIfInBounds_toArray, List.set_cons_zero, List.set_cons_succ, i64_w, i32_w]; rfl)
                                  refine pure_ (i := 20) (N := some 83) (v := ?_) (a' := ?_) #[true, true, true, true, true, true, true, true, true, true, true, true, true, true, true, true, true, true, true, true, true, false, false, false, false, false, false, false, false, false, false, false, false, false, false, false, false, false, false, false, false, false] rfl rfl (any_of HT_.out (by kernel_rfl)) (fun _ _ _ h => h) (Or.inl ⟨by rfl, ?_⟩) ?_ ?_; rotate_left; (intro w'; go_simp; with_reducible rfl); rotate_left; (simp only [Act.put, List.setIfInBounds_toArray, List.set_cons_zero, List.set_cons_succ, i64_w, i32_w]; rfl)
                                  refine pure_ (i := 21) (N := some 84) (v := ?_) (a' := ?_) #[true, true, true, true, true, true, true, true, true, true, true, true, true, true, true, true, true, true, true, true, true, true, false, false, false, false, false, false, false, false, false, false, false, false, false, false, false, false, false, false, false, false] rfl rfl (any_of HT_.out (by kernel_rfl)) (fun _ _ _ h => h) (Or.inl ⟨by rfl, ?_⟩) ?_ ?_; rotate_left; (intro w'; go_simp; with_reducible rfl); rotate_left; (simp only [Act.put, List.setIfInBounds_toArray, List.set_cons_zero, List.set_cons_succ, i64_w, i32_w]; rfl)
                                  refine pure_ (i := 22) (N := some 85) (v := ?_) (a' := ?_) #[true, true, true, true, true, true, true, true, true, true, true, true, true, true, true, true, true, true, true, true, true, true, true, false, false, false, false, false, false, false, false, false, false, false, false, false, false, false, false, false, false, false] rfl rfl (any_of HT_.out (by kernel_rfl)) (fun _ _ _ h => h) (Or.inl ⟨by rfl, ?_⟩) ?_ ?_; rotate_left; (intro w'; go_simp; with_reducible rfl); rotate_left; (simp only [Act.put, List.setIfInBounds_toArray, List.set_cons_zero, List.set_cons_succ, i64_w, i32_w]; rfl)
                                  refine pure_ (i := 23) (N := some 86) (v := ?_) (a' := ?_) #[true, true, true, true, true, true, true, true, true, true, true, true, true, true, true, true, true, true, true, true, true, true, true, true, false, false, false, false, false, false, false, false, false, false, false, false, false, false, false, false, false, false] rfl rfl (any_of HT_.out (by kernel_rfl)) (fun _ _ _ h => h) (Or.inl ⟨by rfl, ?_⟩) ?_ ?_; rotate_left; (intro w'; go_simp; with_reducible rfl); rotate_left; (simp only [Act.put, List.setIfInBounds_toArray, List.set_cons_zero, List.set_cons_succ, i64_w, i32_w]; rfl)
                                  refine one_ (i := 24) (N := some 87) #[true, true, true, true, true, true, true, true, true, true, true, true, true, true, true, true, true, true, true, true, true, true, true, true, true, false, false, false, false, false, false, false, false, false, false, false, false, false, false, false, false, false] rfl rfl (one_of HT_.out (by kernel_rfl)) (by decide) (fun K hK => ?_)
                                  refine goes_ Try.func36 (by kernel_rfl) rfl #[.slice (some ⟨go29, 0, none⟩) y418.length co60] (by rfl) rfl rfl (by (try simp only [List.map_toArray, List.map_cons, List.map_nil]); first | done | rfl | (simp only [List.length_drop, List.length_take]; rfl) | (simp only [KY69.out]; done) | (simp only [KY69.out]; rfl)) ?_
                                  with_reducible refine (scullerref02_Seal.calls kj8 _ _ y418 t422 _ ?side1 ?side2 A43.out).mono ?_
                                  (case side1 => repeat (first | exact (by repeat (first | (with_reducible exact HR421.out) | (with_reducible refine Kd.C_alloc ?_ _) | (with_reducible refine Kd.C_drewN ?_ _) | (with_reducible refine Kd.C_drew ?_) | exact HR421.out)) | (with_reducible refine Kd.C_alloc ?_ _) | (with_reducible refine Kd.C_drewN ?_ _) | (with_reducible refine Kd.C_drew ?_)))
                                  (case side2 => exact HC421.out)
                                  rintro e w70 ⟨v423, rfl, ho0, hb⟩
                                  refine ⟨_, rfl, ?_⟩
                                  have n0_ := Aside0.mk (Kd.R_below (Far.Ra HO399.out) hb)
                                  have n1_ := Aside0.mk (Kd.R_elder' (Far.Ra HO403.out) (Kd.R_base ho0) hb)
                                  have n2_ := Aside0.mk (Kd.R_elder' (Far.Ra HO407.out) (Kd.R_base ho0) hb)
                                  have n3_ := Aside0.mk (Kd.R_elder' (Far.Ra HO411.out) (Kd.R_base ho0) hb)
                                  have n4_ := Aside0.mk (Kd.R_lower (Kd.R_new' (Kd.R_new' (Kd.R_new' ho0 (Kd.R_lt (Far.Ra HO403.out))) (Kd.R_lt (Far.Ra HO407.out))) (Kd.R_lt (Far.Ra HO411.out))) (below_size (by repeat (first | (with_reducible first | exact HB.out | apply below_alloc | apply pw_below_drewN | apply below_drew1 | refine below_set ?_ GE393.out | refine below_set ?_ GE404.out) | exact HB.out))))
                                  have n5_ := Aside0.mk (blk_below (g := gb393) (o := .cells #[.int .u64 a0_0, .slice A0_1 l0_1.length c0_1, .int .u32 a0_2, .slice A0_3 l0_3.length c0_3] 66 (0, 0)) (Far.Ba BK393.out) hb)
                                  have n6_ := Aside0.mk (blk_below (g := gb404) (o := .cells #[.int .u64 t396, .slice Ao55 t397.length co55, .int .u32 t400, .slice Ao56 t401.length co56] 66 (0, 0)) (Far.Ba BK404.out) hb)
                                  have n7_ := Aside0.mk (Kd.C_below (by repeat (first | (with_reducible exact HR421.out) | (with_reducible refine Kd.C_alloc ?_ _) | (with_reducible refine Kd.C_drewN ?_ _) | (with_reducible refine Kd.C_drew ?_) | exact HR421.out)) hb)
                                  have n8_ := Aside0.mk (below_step (by repeat (first | (with_reducible first | exact HB.out | apply below_alloc | apply pw_below_drewN | apply below_drew1 | refine below_set ?_ GE393.out | refine below_set ?_ GE404.out) | exact HB.out)) hb)
                                  clear HO399 HO403 HO407 HO411 BK393 BK404 HR421 HB
                                  have HO399 := n0_
                                  have HO403 := n1_
                                  have HO407 := n2_
                                  have HO411 := n3_
                                  have HO424 := n4_
                                  have BK393 := n5_
                                  have BK404 := n6_
                                  have HR421 := n7_
                                  have HB := n8_
                                  clear n0_ n1_ n2_ n3_ n4_ n5_ n6_ n7_ n8_
                                  (try clear hb)
                                  (try clear hb2)
                                  (try clear hk)
                                  (try clear hi)
                                  (try clear ho0)
                                  obtain ⟨Ao71, co71, eo71⟩ := Kd.R_slice HO424.out
                                  (first | subst eo71 | (injection eo71 with f1_ f2_ f3_; have f4_ := f1_.symm; have f5_ := f3_.symm; clear f1_ f2_ f3_; subst f4_; subst f5_))
                                  (try have c42b1kco71 : ((ji40) ≤ (co71 : Int)) = True := eq_true (by have h_ := (Kd.R_reads' HO424.out).2.1; have q_ := of_decide_eq_true c42b1; omega))
                                  refine hK.out _ _ ⟨(blk_cell BK393.out 0).trans rfl, (blk_cell BK393.out 1).trans rfl, (blk_cell BK393.out 2).trans rfl, (blk_cell BK393.out 3).trans rfl, (blk_cell BK404.out 0).trans rfl, (blk_cell BK404.out 1).trans rfl, (blk_cell BK404.out 2).trans rfl, (blk_cell BK404.out 3).trans rfl⟩ (fun hHeld => ?_)
                                  clear hK K
                                  refine norm_ (a' := ?_) ?_ ?_
                                  rotate_left
                                  · show Act.put _ (some 87) _ = _
                                    simp only [Act.put, List.setIfInBounds_toArray, List.set_cons_zero, List.set_cons_succ, i64_w, i32_w]
                                    rfl
                                  refine one_ (i := 25) (N := some 88) #[true, true, true, true, true, true, true, true, true, true, true, true, true, true, true, true, true, true, true, true, true, true, true, true, true, true, false, false, false, false, false, false, false, false, false, false, false, false, false, false, false, false] rfl rfl (one_of HT_.out (by kernel_rfl)) (by decide) (fun K hK => ?_)
                                  refine goes_ Try.func43 (by kernel_rfl) rfl #[.slice Ao71 t422.length co71] (by rfl) rfl rfl (by (try simp only [List.map_toArray, List.map_cons, List.map_nil]); first | done | rfl | (simp only [List.length_drop, List.length_take]; rfl) | (simp only [KY69.out]; done) | (simp only [KY69.out]; rfl)) ?_
                                  with_reducible refine (scullerlaw14_decodes.calls kj8 _ _ t422 true _ ?side1 ?side2 A44.out).mono ?_
                                  (case side1 => repeat (first | exact (Kd.R_reads' HO424.out).2.2 | (with_reducible refine Kd.C_alloc ?_ _) | (with_reducible refine Kd.C_drewN ?_ _) | (with_reducible refine Kd.C_drew ?_)))
                                  (case side2 => exact (Kd.R_reads' HO424.out).2.1)
                                  rintro e w72 ⟨rfl, hb⟩
                                  refine ⟨_, rfl, ?_⟩
                                  have n0_ := Aside0.mk (Kd.R_below (Far.Ra HO399.out) hb)
                                  have n1_ := Aside0.mk (Kd.R_below (Far.Ra HO403.out) hb)
                                  have n2_ := Aside0.mk (Kd.R_below (Far.Ra HO407.out) hb)
                                  have n3_ := Aside0.mk (Kd.R_below (Far.Ra HO411.out) hb)
                                  have n4_ := Aside0.mk (Kd.R_below (Far.Ra HO424.out) hb)
                                  have n5_ := Aside0.mk (blk_below (g := gb393) (o := .cells #[.int .u64 a0_0, .slice A0_1 l0_1.length c0_1, .int .u32 a0_2, .slice A0_3 l0_3.length c0_3] 66 (0, 0)) (Far.Ba BK393.out) hb)
                                  have n6_ := Aside0.mk (blk_below (g := gb404) (o := .cells #[.int .u64 t396, .slice Ao55 t397.length co55, .int .u32 t400, .slice Ao56 t401.length co56] 66 (0, 0)) (Far.Ba BK404.out) hb)
                                  have n7_ := Aside0.mk (Kd.C_below (by repeat (first | (with_reducible exact HR421.out) | (with_reducible refine Kd.C_alloc ?_ _) | (with_reducible refine Kd.C_drewN ?_ _) | (with_reducible refine Kd.C_drew ?_) | exact HR421.out)) hb)
                                  have n8_ := Aside0.mk (below_step (by repeat (first | (with_reducible first | exact HB.out | apply below_alloc | apply pw_below_drewN | apply below_drew1 | refine below_set ?_ GE393.out | refine below_set ?_ GE404.out) | exact HB.out)) hb)
                                  clear HO399 HO403 HO407 HO411 HO424 BK393 BK404 HR421 HB
                                  have HO399 := n0_
                                  have HO403 := n1_
                                  have HO407 := n2_
                                  have HO411 := n3_
                                  have HO424 := n4_
                                  have BK393 := n5_
                                  have BK404 := n6_
                                  have HR421 := n7_
                                  have HB := n8_
                                  clear n0_ n1_ n2_ n3_ n4_ n5_ n6_ n7_ n8_
                                  (try clear hb)
                                  (try clear hb2)
                                  (try clear hk)
                                  (try clear hi)
                                  refine hK.out _ _ ⟨(blk_cell BK393.out 0).trans rfl, (blk_cell BK393.out 1).trans rfl, (blk_cell BK393.out 2).trans rfl, (blk_cell BK393.out 3).trans rfl, (blk_cell BK404.out 0).trans rfl, (blk_cell BK404.out 1).trans rfl, (blk_cell BK404.out 2).trans rfl, (blk_cell BK404.out 3).trans rfl⟩ (fun hHeld => ?_)
                                  clear hK K
                                  refine norm_ (a' := ?_) ?_ ?_
                                  rotate_left
                                  · show Act.put _ (some 88) _ = _
                                    simp only [Act.put, List.setIfInBounds_toArray, List.set_cons_zero, List.set_cons_succ, i64_w, i32_w]
                                    rfl
                                  refine pure_ (i := 26) (N := some 89) (v := ?_) (a' := ?_) #[true, true, true, true, true, true, true, true, true, true, true, true, true, true, true, true, true, true, true, true, true, true, true, true, true, true, true, false, false, false, false, false, false, false, false, false, false, false, false, false, false, false] rfl rfl (any_of HT_.out (by kernel_rfl)) (fun _ _ _ h => h) (Or.inl ⟨by rfl, ?_⟩) ?_ ?_; rotate_left; (intro w'; go_simp; with_reducible rfl); rotate_left; (simp only [Act.put, List.setIfInBounds_toArray, List.set_cons_zero, List.set_cons_succ, i64_w, i32_w]; rfl)
                                  refine pure_ (i := 27) (N := some 90) (v := ?_) (a' := ?_) #[true, true, true, true, true, true, true, true, true, true, true, true, true, true, true, true, true, true, true, true, true, true, true, true, true, true, true, true, false, false, false, false, false, false, false, false, false, false, false, false, false, false] rfl rfl (any_of HT_.out (by kernel_rfl)) (fun _ _ _ h => h) (Or.inl ⟨by rfl, ?_⟩) ?_ ?_; rotate_left; (intro w'; go_simp; with_reducible rfl); rotate_left; (simp only [Act.put, List.setIfInBounds_toArray, List.set_cons_zero, List.set_cons_succ, i64_w, i32_w]; rfl)
                                  refine pure_ (i := 28) (N := some 91) (v := ?_) (a' := ?_) #[true, true, true, true, true, true, true, true, true, true, true, true, true, true, true, true, true, true, true, true, true, true, true, true, true, true, true, true, true, false, false, false, false, false, false, false, false, false, false, false, false, false] rfl rfl (any_of HT_.out (by kernel_rfl)) (fun _ _ _ h => h) (Or.inl ⟨by rfl, ?_⟩) ?_ ?_; rotate_left; (intro w'; go_simp; with_reducible rfl); rotate_left; (simp only [Act.put, List.setIfInBounds_toArray, List.set_cons_zero, List.set_cons_succ, i64_w, i32_w]; rfl)
                                  refine one_ (i := 29) (N := some 92) #[true, true, true, true, true, true, true, true, true, true, true, true, true, true, true, true, true, true, true, true, true, true, true, true, true, true, true, true, true, true, false, false, false, false, false, false, false, false, false, false, false, false] rfl rfl (one_of HT_.out (by kernel_rfl)) (by decide) (fun K hK => ?_)
                                  refine goes_ Try.func36 (by kernel_rfl) rfl #[.slice A1 l1.length c1] (by rfl) rfl rfl (by (try simp only [List.map_toArray, List.map_cons, List.map_nil]); first | done | rfl | (simp only [List.length_drop, List.length_take]; rfl) | (simp only [KY69.out]; done) | (simp only [KY69.out]; rfl)) ?_
                                  with_reducible refine (scullerref02_Seal.calls kj8 _ _ l1 t426 _ ?side1 ?side2 A46.out).mono ?_
                                  (case side1 => repeat (first | exact (Kd.C_below HR1.out HB.out) | (with_reducible refine Kd.C_alloc ?_ _) | (with_reducible refine Kd.C_drewN ?_ _) | (with_reducible refine Kd.C_drew ?_)))
                                  (case side2 => exact HC1.out)
                                  rintro e w73 ⟨v427, rfl, ho0, hb⟩
                                  refine ⟨_, rfl, ?_⟩
                                  have n0_ := Aside0.mk (Kd.R_below (Far.Ra HO399.out) hb)
                                  have n1_ := Aside0.mk (Kd.R_elder' (Far.Ra HO403.out) (Kd.R_base ho0) hb)
                                  have n2_ := Aside0.mk (Kd.R_elder' (Far.Ra HO407.out) (Kd.R_base ho0) hb)
                                  have n3_ := Aside0.mk (Kd.R_elder' (Far.Ra HO411.out) (Kd.R_base ho0) hb)
                                  have n4_ := Aside0.mk (Kd.R_elder' (Far.Ra HO424.out) (Kd.R_base ho0) hb)
                                  have n5_ := Aside0.mk (Kd.R_lower (Kd.R_new' (Kd.R_new' (Kd.R_new' (Kd.R_new' ho0 (Kd.R_lt (Far.Ra HO403.out))) (Kd.R_lt (Far.Ra HO407.out))) (Kd.R_lt (Far.Ra HO411.out))) (Kd.R_lt (Far.Ra HO424.out))) (below_size (by repeat (first | (with_reducible first | exact HB.out | apply below_alloc | apply pw_below_drewN | apply below_drew1 | refine below_set ?_ GE393.out | refine below_set ?_ GE404.out) | exact HB.out))))
                                  have n6_ := Aside0.mk (blk_below (g := gb393) (o := .cells #[.int .u64 a0_0, .slice A0_1 l0_1.length c0_1, .int .u32 a0_2, .slice A0_3 l0_3.length c0_3] 66 (0, 0)) (Far.Ba BK393.out) hb)
                                  have n7_ := Aside0.mk (blk_below (g := gb404) (o := .cells #[.int .u64 t396, .slice Ao55 t397.length co55, .int .u32 t400, .slice Ao56 t401.length co56] 66 (0, 0)) (Far.Ba BK404.out) hb)
                                  have n8_ := Aside0.mk (Kd.C_below (by repeat (first | (with_reducible exact HR421.out) | (with_reducible refine Kd.C_alloc ?_ _) | (with_reducible refine Kd.C_drewN ?_ _) | (with_reducible refine Kd.C_drew ?_) | exact HR421.out)) hb)
                                  have n9_ := Aside0.mk (below_step (by repeat (first | (with_reducible first | exact HB.out | apply below_alloc | apply pw_below_drewN | apply below_drew1 | refine below_set ?_ GE393.out | refine below_set ?_ GE404.out) | exact HB.out)) hb)
                                  clear HO399 HO403 HO407 HO411 HO424 BK393 BK404 HR421 HB
                                  have HO399 := n0_
                                  have HO403 := n1_
                                  have HO407 := n2_
                                  have HO411 := n3_
                                  have HO424 := n4_
                                  have HO428 := n5_
                                  have BK393 := n6_
                                  have BK404 := n7_
                                  have HR421 := n8_
                                  have HB := n9_
                                  clear n0_ n1_ n2_ n3_ n4_ n5_ n6_ n7_ n8_ n9_
                                  (try clear hb)
                                  (try clear hb2)
                                  (try clear hk)
                                  (try clear hi)
                                  (try clear ho0)
                                  obtain ⟨Ao74, co74, eo74⟩ := Kd.R_slice HO428.out
                                  (first | subst eo74 | (injection eo74 with f1_ f2_ f3_; have f4_ := f1_.symm; have f5_ := f3_.symm; clear f1_ f2_ f3_; subst f4_; subst f5_))
                                  (try have c42b1kco74 : ((ji40) ≤ (co74 : Int)) = True := eq_true (by have h_ := (Kd.R_reads' HO428.out).2.1; have q_ := of_decide_eq_true c42b1; omega))
                                  refine hK.out _ _ ⟨(blk_cell BK393.out 0).trans rfl, (blk_cell BK393.out 1).trans rfl, (blk_cell BK393.out 2).trans rfl, (blk_cell BK393.out 3).trans rfl, (blk_cell BK404.out 0).trans rfl, (blk_cell BK404.out 1).trans rfl, (blk_cell BK404.out 2).trans rfl, (blk_cell BK404.out 3).trans rfl⟩ (fun hHeld => ?_)
                                  clear hK K
                                  refine norm_ (a' := ?_) ?_ ?_
                                  rotate_left
                                  · show Act.put _ (some 92) _ = _
                                    simp only [Act.put, List.setIfInBounds_toArray, List.set_cons_zero, List.set_cons_succ, i64_w, i32_w]
                                    rfl
                                  refine one_ (i := 30) (N := some 93) #[true, true, true, true, true, true, true, true, true, true, true, true, true, true, true, true, true, true, true, true, true, true, true, true, true, true, true, true, true, true, true, false, false, false, false, false, false, false, false, false, false, false] rfl rfl (one_of HT_.out (by kernel_rfl)) (by decide) (fun K hK => ?_)
                                  refine goes_ Try.func43 (by kernel_rfl) rfl #[.slice Ao74 t426.length co74] (by rfl) rfl rfl (by (try simp only [List.map_toArray, List.map_cons, List.map_nil]); first | done | rfl | (simp only [List.length_drop, List.length_take]; rfl) | (simp only [KY69.out]; done) | (simp only [KY69.out]; rfl)) ?_
                                  with_reducible refine (scullerlaw14_decodes.calls kj8 _ _ t426 true _ ?side1 ?side2 A47.out).mono ?_
                                  (case side1 => repeat (first | exact (Kd.R_reads' HO428.out).2.2 | (with_reducible refine Kd.C_alloc ?_ _) | (with_reducible refine Kd.C_drewN ?_ _) | (with_reducible refine Kd.C_drew ?_)))
                                  (case side2 => exact (Kd.R_reads' HO428.out).2.1)
                                  rintro e w75 ⟨rfl, hb⟩
                                  refine ⟨_, rfl, ?_⟩
                                  have n0_ := Aside0.mk (Kd.R_below (Far.Ra HO399.out) hb)
                                  have n1_ := Aside0.mk (Kd.R_below (Far.Ra HO403.out) hb)
                                  have n2_ := Aside0.mk (Kd.R_below (Far.Ra HO407.out) hb)
                                  have n3_ := Aside0.mk (Kd.R_below (Far.Ra HO411.out) hb)
                                  have n4_ := Aside0.mk (Kd.R_below (Far.Ra HO424.out) hb)
                                  have n5_ := Aside0.mk (Kd.R_below (Far.Ra HO428.out) hb)
                                  have n6_ := Aside0.mk (blk_below (g := gb393) (o := .cells #[.int .u64 a0_0, .slice A0_1 l0_1.length c0_1, .int .u32 a0_2, .slice A0_3 l0_3.length c0_3] 66 (0, 0)) (Far.Ba BK393.out) hb)
                                  have n7_ := Aside0.mk (blk_below (g := gb404) (o := .cells #[.int .u64 t396, .slice Ao55 t397.length co55, .int .u32 t400, .slice Ao56 t401.length co56] 66 (0, 0)) (Far.Ba BK404.out) hb)
                                  have n8_ := Aside0.mk (Kd.C_below (by repeat (first | (with_reducible exact HR421.out) | (with_reducible refine Kd.C_alloc ?_ _) | (with_reducible refine Kd.C_drewN ?_ _) | (with_reducible refine Kd.C_drew ?_) | exact HR421.out)) hb)
                                  have n9_ := Aside0.mk (below_step (by repeat (first | (with_reducible first | exact HB.out | apply below_alloc | apply pw_below_drewN | apply below_drew1 | refine below_set ?_ GE393.out | refine below_set ?_ GE404.out) | exact HB.out)) hb)
                                  clear HO399 HO403 HO407 HO411 HO424 HO428 BK393 BK404 HR421 HB
                                  have HO399 := n0_
                                  have HO403 := n1_
                                  have HO407 := n2_
                                  have HO411 := n3_
                                  have HO424 := n4_
                                  have HO428 := n5_
                                  have BK393 := n6_
                                  have BK404 := n7_
                                  have HR421 := n8_
                                  have HB := n9_
                                  clear n0_ n1_ n2_ n3_ n4_ n5_ n6_ n7_ n8_ n9_
                                  (try clear hb)
                                  (try clear hb2)
                                  (try clear hk)
                                  (try clear hi)
                                  refine hK.out _ _ ⟨(blk_cell BK393.out 0).trans rfl, (blk_cell BK393.out 1).trans rfl, (blk_cell BK393.out 2).trans rfl, (blk_cell BK393.out 3).trans rfl, (blk_cell BK404.out 0).trans rfl, (blk_cell BK404.out 1).trans rfl, (blk_cell BK404.out 2).trans rfl, (blk_cell BK404.out 3).trans rfl⟩ (fun hHeld => ?_)
                                  clear hK K
                                  refine norm_ (a' := ?_) ?_ ?_
                                  rotate_left
                                  · show Act.put _ (some 93) _ = _
                                    simp only [Act.put, List.setIfInBounds_toArray, List.set_cons_zero, List.set_cons_succ, i64_w, i32_w]
                                    rfl
                                  refine pure_ (i := 31) (N := some 94) (v := ?_) (a' := ?_) #[true, true, true, true, true, true, true, true, true, true, true, true, true, true, true, true, true, true, true, true, true, true, true, true, true, true, true, true, true, true, true, true, false, false, false, false, false, false, false, false, false, false] rfl rfl (any_of HT_.out (by kernel_rfl)) (fun _ _ _ h => h) (Or.inl ⟨by rfl, ?_⟩) ?_ ?_; rotate_left; (intro w'; go_simp; with_reducible rfl); rotate_left; (simp only [Act.put, List.setIfInBounds_toArray, List.set_cons_zero, List.set_cons_succ, i64_w, i32_w]; rfl)
                                  refine pure_ (i := 32) (N := some 95) (v := ?_) (a' := ?_) #[true, true, true, true, true, true, true, true, true, true, true, true, true, true, true, true, true, true, true, true, true, true, true, true, true, true, true, true, true, true, true, true, true, false, false, false, false, false, false, false, false, false] rfl rfl (any_of HT_.out (by kernel_rfl)) (fun _ _ _ h => h) (Or.inl ⟨by rfl, ?_⟩) ?_ ?_; rotate_left; (intro w'; go_simp; with_reducible rfl); rotate_left; (simp only [Act.put, List.setIfInBounds_toArray, List.set_cons_zero, List.set_cons_succ, i64_w, i32_w]; rfl)
                                  refine take_ (i := 33) (N := some 96) (v := ?_) (a' := ?_) #[true, true, true, true, true, true, true, true, true, true, true, true, true, true, true, true, true, true, true, true, true, true, true, true, true, true, true, true, true, true, true, true, true, true, false, false, false, false, false, false, false, false] rfl rfl (take_ofW HT_.out HW_.out (by kernel_rfl)) (fun _ _ _ h => h) (Or.inl ⟨by rfl, ?_⟩) hHeld ?_ ?_; rotate_left; (rintro w' ⟨s0, s1, s2, s3, s4, s5, s6, s7⟩; go_simp; with_reducible rfl); rotate_left; (simp only [Act.put, List.setIfInBounds_toArray, List.set_cons_zero, List.set_cons_succ, i64_w, i32_w]; rfl)
                                  refine take_ (i := 34) (N := some 97) (v := ?_) (a' := ?_) #[true, true, true, true, true, true, true, true, true, true, true, true, true, true, true, true, true, true, true, true, true, true, true, true, true, true, true, true, true, true, true, true, true, true, true, false, false, false, false, false, false, false] rfl rfl (take_ofW HT_.out HW_.out (by kernel_rfl)) (fun _ _ _ h => h) (Or.inl ⟨by rfl, ?_⟩) hHeld ?_ ?_; rotate_left; (rintro w' ⟨s0, s1, s2, s3, s4, s5, s6, s7⟩; go_simp; with_reducible rfl); rotate_left; (simp only [Act.put, List.setIfInBounds_toArray, List.set_cons_zero, List.set_cons_succ, i64_w, i32_w]; rfl)
                                  refine take_ (i := 36) (N := some 99) (v := ?_) (a' := ?_) #[true, true, true, true, true, true, true, true, true, true, true, true, true, true, true, true, true, true, true, true, true, true, true, true, true, true, true, true, true, true, true, true, true, true, true, false, true, false, false, false, false, false] rfl rfl (take_ofW HT_.out HW_.out (by kernel_rfl)) (fun _ _ _ h => h) (Or.inl ⟨by rfl, ?_⟩) hHeld ?_ ?_; rotate_left; (rintro w' ⟨s0, s1, s2, s3, s4, s5, s6, s7⟩; go_simp; with_reducible rfl); rotate_left; (simp only [Act.put, List.setIfInBounds_toArray, List.set_cons_zero, List.set_cons_succ, i64_w, i32_w]; rfl)
                                  refine take_ (i := 37) (N := some 100) (v := ?_) (a' := ?_) #[true, true, true, true, true, true, true, true, true, true, true, true, true, true, true, true, true, true, true, true, true, true, true, true, true, true, true, true, true, true, true, true, true, true, true, false, true, true, false, false, false, false] rfl rfl (take_ofW HT_.out HW_.out (by kernel_rfl)) (fun _ _ _ h => h) (Or.inl ⟨by rfl, ?_⟩) hHeld ?_ ?_; rotate_left; (rintro w' ⟨s0, s1, s2, s3, s4, s5, s6, s7⟩; go_simp; with_reducible rfl); rotate_left; (simp only [Act.put, List.setIfInBounds_toArray, List.set_cons_zero, List.set_cons_succ, i64_w, i32_w]; rfl)
                                  refine one_ (i := 35) (N := some 98) #[true, true, true, true, true, true, true, true, true, true, true, true, true, true, true, true, true, true, true, true, true, true, true, true, true, true, true, true, true, true, true, true, true, true, true, true, true, true, false, false, false, false] rfl rfl (one_of HT_.out (by kernel_rfl)) (by decide) (fun K hK => ?_)
                                  refine goes_ Try.func44 (by kernel_rfl) rfl #[.agg #[.int .u64 a0_0, .slice A0_1 l0_1.length c0_1, .int .u32 a0_2, .slice A0_3 l0_3.length c0_3], .agg #[.int .u64 t396, .slice Ao55 t397.length co55, .int .u32 t400, .slice Ao56 t401.length co56]] (by rfl) rfl rfl (by (try simp only [List.map_toArray, List.map_cons, List.map_nil]); first | done | rfl | (simp only [List.length_drop, List.length_take]; rfl) | (simp only [KY69.out]; done) | (simp only [KY69.out]; rfl)) ?_
                                  with_reducible refine (token_Same.calls kj8 a0_0 _ _ l0_1 a0_2 _ _ l0_3 t396 _ _ t397 t400 _ _ t401 t430 _ ?side1 ?side2 ?side3 ?side4 ?side5 ?side6 ?side7 ?side8 A49.out).mono ?_
                                  (case side1 => repeat (first | exact (Kd.C_below HR0_1.out HB.out) | (with_reducible refine Kd.C_alloc ?_ _) | (with_reducible refine Kd.C_drewN ?_ _) | (with_reducible refine Kd.C_drew ?_)))
                                  (case side2 => exact HC0_1.out)
                                  (case side3 => repeat (first | exact (Kd.C_below HR0_3.out HB.out) | (with_reducible refine Kd.C_alloc ?_ _) | (with_reducible refine Kd.C_drewN ?_ _) | (with_reducible refine Kd.C_drew ?_)))
                                  (case side4 => exact HC0_3.out)
                                  (case side5 => repeat (first | exact (Kd.R_reads' HO399.out).2.2 | (with_reducible refine Kd.C_alloc ?_ _) | (with_reducible refine Kd.C_drewN ?_ _) | (with_reducible refine Kd.C_drew ?_)))
                                  (case side6 => exact (Kd.R_reads' HO399.out).2.1)
                                  (case side7 => repeat (first | exact (Kd.R_reads' HO403.out).2.2 | (with_reducible refine Kd.C_alloc ?_ _) | (with_reducible refine Kd.C_drewN ?_ _) | (with_reducible refine Kd.C_drew ?_)))
                                  (case side8 => exact (Kd.R_reads' HO403.out).2.1)
                                  rintro e w76 ⟨rfl, hb⟩
                                  refine ⟨_, rfl, ?_⟩
                                  have n0_ := Aside0.mk (Kd.R_below (Far.Ra HO399.out) hb)
                                  have n1_ := Aside0.mk (Kd.R_below (Far.Ra HO403.out) hb)
                                  have n2_ := Aside0.mk (Kd.R_below (Far.Ra HO407.out) hb)
                                  have n3_ := Aside0.mk (Kd.R_below (Far.Ra HO411.out) hb)
                                  have n4_ := Aside0.mk (Kd.R_below (Far.Ra HO424.out) hb)
                                  have n5_ := Aside0.mk (Kd.R_below (Far.Ra HO428.out) hb)
                                  have n6_ := Aside0.mk (blk_below (g := gb393) (o := .cells #[.int .u64 a0_0, .slice A0_1 l0_1.length c0_1, .int .u32 a0_2, .slice A0_3 l0_3.length c0_3] 66 (0, 0)) (Far.Ba BK393.out) hb)
                                  have n7_ := Aside0.mk (blk_below (g := gb404) (o := .cells #[.int .u64 t396, .slice Ao55 t397.length co55, .int .u32 t400, .slice Ao56 t401.length co56] 66 (0, 0)) (Far.Ba BK404.out) hb)
                                  have n8_ := Aside0.mk (Kd.C_below (by repeat (first | (with_reducible exact HR421.out) | (with_reducible refine Kd.C_alloc ?_ _) | (with_reducible refine Kd.C_drewN ?_ _) | (with_reducible refine Kd.C_drew ?_) | exact HR421.out)) hb)
                                  have n9_ := Aside0.mk (below_step (by repeat (first | (with_reducible first | exact HB.out | apply below_alloc | apply pw_below_drewN | apply below_drew1 | refine below_set ?_ GE393.out | refine below_set ?_ GE404.out) | exact HB.out)) hb)
                                  clear HO399 HO403 HO407 HO411 HO424 HO428 BK393 BK404 HR421 HB
                                  have HO399 := n0_
                                  have HO403 := n1_
                                  have HO407 := n2_
                                  have HO411 := n3_
                                  have HO424 := n4_
                                  have HO428 := n5_
                                  have BK393 := n6_
                                  have BK404 := n7_
                                  have HR421 := n8_
                                  have HB := n9_
                                  clear n0_ n1_ n2_ n3_ n4_ n5_ n6_ n7_ n8_ n9_
                                  (try clear hb)
                                  (try clear hb2)
                                  (try clear hk)
                                  (try clear hi)
                                  refine hK.out _ _ ⟨(blk_cell BK393.out 0).trans rfl, (blk_cell BK393.out 1).trans rfl, (blk_cell BK393.out 2).trans rfl, (blk_cell BK393.out 3).trans rfl, (blk_cell BK404.out 0).trans rfl, (blk_cell BK404.out 1).trans rfl, (blk_cell BK404.out 2).trans rfl, (blk_cell BK404.out 3).trans rfl⟩ (fun hHeld => ?_)
                                  clear hK K
                                  refine norm_ (a' := ?_) ?_ ?_
                                  rotate_left
                                  · show Act.put _ (some 98) _ = _
                                    simp only [Act.put, List.setIfInBounds_toArray, List.set_cons_zero, List.set_cons_succ, i64_w, i32_w]
                                    rfl
                                  refine one_ (i := 38) (N := some 101) #[true, true, true, true, true, true, true, true, true, true, true, true, true, true, true, true, true, true, true, true, true, true, true, true, true, true, true, true, true, true, true, true, true, true, true, true, true, true, true, false, false, false] rfl rfl (one_of HT_.out (by kernel_rfl)) (by decide) (fun K hK => ?_)
                                  refine goes_ Try.func45 (by kernel_rfl) rfl #[.agg #[.int .u64 a0_0, .slice A0_1 l0_1.length c0_1, .int .u32 a0_2, .slice A0_3 l0_3.length c0_3], .agg #[.int .u64 t396, .slice Ao55 t397.length co55, .int .u32 t400, .slice Ao56 t401.length co56]] (by rfl) rfl rfl (by (try simp only [List.map_toArray, List.map_cons, List.map_nil]); first | done | rfl | (simp only [List.length_drop, List.length_take]; rfl) | (simp only [KY69.out]; done) | (simp only [KY69.out]; rfl)) ?_
                                  with_reducible refine (scullerref14_Same.calls kj8 a0_0 _ _ l0_1 a0_2 _ _ l0_3 t396 _ _ t397 t400 _ _ t401 t431 _ ?side1 ?side2 ?side3 ?side4 ?side5 ?side6 ?side7 ?side8 A50.out).mono ?_
                                  (case side1 => repeat (first | exact (Kd.C_below HR0_1.out HB.out) | (with_reducible refine Kd.C_alloc ?_ _) | (with_reducible refine Kd.C_drewN ?_ _) | (with_reducible refine Kd.C_drew ?_)))
                                  (case side2 => exact HC0_1.out)
                                  (case side3 => repeat (first | exact (Kd.C_below HR0_3.out HB.out) | (with_reducible refine Kd.C_alloc ?_ _) | (with_reducible refine Kd.C_drewN ?_ _) | (with_reducible refine Kd.C_drew ?_)))
                                  (case side4 => exact HC0_3.out)
                                  (case side5 => repeat (first | exact (Kd.R_reads' HO399.out).2.2 | (with_reducible refine Kd.C_alloc ?_ _) | (with_reducible refine Kd.C_drewN ?_ _) | (with_reducible refine Kd.C_drew ?_)))
                                  (case side6 => exact (Kd.R_reads' HO399.out).2.1)
                                  (case side7 => repeat (first | exact (Kd.R_reads' HO403.out).2.2 | (with_reducible refine Kd.C_alloc ?_ _) | (with_reducible refine Kd.C_drewN ?_ _) | (with_reducible refine Kd.C_drew ?_)))
                                  (case side8 => exact (Kd.R_reads' HO403.out).2.1)
                                  rintro e w77 ⟨rfl, hb⟩
                                  refine ⟨_, rfl, ?_⟩
                                  have n0_ := Aside0.mk (Kd.R_below (Far.Ra HO399.out) hb)
                                  have n1_ := Aside0.mk (Kd.R_below (Far.Ra HO403.out) hb)
                                  have n2_ := Aside0.mk (Kd.R_below (Far.Ra HO407.out) hb)
                                  have n3_ := Aside0.mk (Kd.R_below (Far.Ra HO411.out) hb)
                                  have n4_ := Aside0.mk (Kd.R_below (Far.Ra HO424.out) hb)
                                  have n5_ := Aside0.mk (Kd.R_below (Far.Ra HO428.out) hb)
                                  have n6_ := Aside0.mk (blk_below (g := gb393) (o := .cells #[.int .u64 a0_0, .slice A0_1 l0_1.length c0_1, .int .u32 a0_2, .slice A0_3 l0_3.length c0_3] 66 (0, 0)) (Far.Ba BK393.out) hb)
                                  have n7_ := Aside0.mk (blk_below (g := gb404) (o := .cells #[.int .u64 t396, .slice Ao55 t397.length co55, .int .u32 t400, .slice Ao56 t401.length co56] 66 (0, 0)) (Far.Ba BK404.out) hb)
                                  have n8_ := Aside0.mk (Kd.C_below (by repeat (first | (with_reducible exact HR421.out) | (with_reducible refine Kd.C_alloc ?_ _) | (with_reducible refine Kd.C_drewN ?_ _) | (with_reducible refine Kd.C_drew ?_) | exact HR421.out)) hb)
                                  have n9_ := Aside0.mk (below_step (by repeat (first | (with_reducible first | exact HB.out | apply below_alloc | apply pw_below_drewN | apply below_drew1 | refine below_set ?_ GE393.out | refine below_set ?_ GE404.out) | exact HB.out)) hb)
                                  clear HO399 HO403 HO407 HO411 HO424 HO428 BK393 BK404 HR421 HB
                                  have HO399 := n0_
                                  have HO403 := n1_
                                  have HO407 := n2_
                                  have HO411 := n3_
                                  have HO424 := n4_
                                  have HO428 := n5_
                                  have BK393 := n6_
                                  have BK404 := n7_
                                  have HR421 := n8_
                                  have HB := n9_
                                  clear n0_ n1_ n2_ n3_ n4_ n5_ n6_ n7_ n8_ n9_
                                  (try clear hb)
                                  (try clear hb2)
                                  (try clear hk)
                                  (try clear hi)
                                  refine hK.out _ _ ⟨(blk_cell BK393.out 0).trans rfl, (blk_cell BK393.out 1).trans rfl, (blk_cell BK393.out 2).trans rfl, (blk_cell BK393.out 3).trans rfl, (blk_cell BK404.out 0).trans rfl, (blk_cell BK404.out 1).trans rfl, (blk_cell BK404.out 2).trans rfl, (blk_cell BK404.out 3).trans rfl⟩ (fun hHeld => ?_)
                                  clear hK K
                                  refine norm_ (a' := ?_) ?_ ?_
                                  rotate_left
                                  · show Act.put _ (some 101) _ = _
                                    simp only [Act.put, List.setIfInBounds_toArray, List.set_cons_zero, List.set_cons_succ, i64_w, i32_w]
                                    rfl
                                  refine pure_ (i := 39) (N := some 102) (v := ?_) (a' := ?_) #[true, true, true, true, true, true, true, true, true, true, true, true, true, true, true, true, true, true, true, true, true, true, true, true, true, true, true, true, true, true, true, true, true, true, true, true, true, true, true, true, false, false] rfl rfl (any_of HT_.out (by kernel_rfl)) (fun _ _ _ h => h) (Or.inl ⟨by rfl, ?_⟩) ?_ ?_; rotate_left; (intro w'; go_simp; with_reducible rfl); rotate_left; (simp only [Act.put, List.setIfInBounds_toArray, List.set_cons_zero, List.set_cons_succ, i64_w, i32_w]; rfl)
                                  refine pure_ (i := 40) (N := some 103) (v := ?_) (a' := ?_) #[true, true, true, true, true, true, true, true, true, true, true, true, true, true, true, true, true, true, true, true, true, true, true, true, true, true, true, true, true, true, true, true, true, true, true, true, true, true, true, true, true, false] rfl rfl (any_of HT_.out (by kernel_rfl)) (fun _ _ _ h => h) (Or.inl ⟨by rfl, ?_⟩) ?_ ?_; rotate_left; (intro w'; go_simp; with_reducible rfl); rotate_left; (simp only [Act.put, List.setIfInBounds_toArray, List.set_cons_zero, List.set_cons_succ, i64_w, i32_w]; rfl)
                                  refine pure_ (i := 41) (N := some 16) (v := ?_) (a' := ?_) #[true, true, true, true, true, true, true, true, true, true, true, true, true, true, true, true, true, true, true, true, true, true, true, true, true, true, true, true, true, true, true, true, true, true, true, true, true, true, true, true, true, true] rfl rfl (any_of HT_.out (by kernel_rfl)) (fun _ _ _ h => h) (Or.inl ⟨by rfl, ?_⟩) ?_ ?_; rotate_left; (intro w'; go_simp; with_reducible rfl); rotate_left; (simp only [Act.put, List.setIfInBounds_toArray, List.set_cons_zero, List.set_cons_succ, i64_w, i32_w]; rfl)
                                  refine done_ (done_of HT_.out (by kernel_rfl)) ?_
                                  try go_wp2
                                  go_ret
                                  exact ⟨by first | rfl | (simp [errW_none, errW_some] <;> rfl) | (simp only [← hji26, ← hji40]; first | rfl | (simp [errW_none, errW_some] <;> rfl)) | (simp [*, errW_none, errW_some] <;> rfl), by repeat (first | (with_reducible first | exact HB.out | apply below_alloc | apply pw_below_drewN | apply below_drew1 | refine below_set ?_ GE393.out | refine below_set ?_ GE404.out) | exact HB.out)⟩
                                · replace c48 := Bool.eq_false_iff.mpr c48
                                  subst c48
                                  have H1 : (some false) = some r := by rw [if_neg (show ¬ (false = true) by decide)] at H; exact H
                                  clear H
                                  have H := H1
                                  clear H1
                                  exact absurd ((Option.some.inj H).trans HRT_.out) (by decide)
                              · replace c45 := Bool.eq_false_iff.mpr c45
                                subst c45
                                have H1 : (some false) = some r := by rw [if_neg (show ¬ (false = true) by decide)] at H; exact H
                                clear H
                                have H := H1
                                clear H1
                                exact absurd ((Option.some.inj H).trans HRT_.out) (by decide)
                            · rw [if_neg c42] at H
                              exact absurd H (by simp)
                          · rw [if_neg c41] at H
                            exact absurd H (by simp)
                        · replace c39 := Bool.eq_false_iff.mpr c39
                          subst c39
                          have H1 : (some false) = some r := by rw [if_neg (show ¬ (false = true) by decide)] at H; exact H
                          clear H
                          have H := H1
                          clear H1
                          exact absurd ((Option.some.inj H).trans HRT_.out) (by decide)
                      · replace c37 := Bool.eq_false_iff.mpr c37
                        subst c37
                        have H1 : (some false) = some r := by rw [if_neg (show ¬ (false = true) by decide)] at H; exact H
                        clear H
                        have H := H1
                        clear H1
                        exact absurd ((Option.some.inj H).trans HRT_.out) (by decide)
                    · replace c35 := Bool.eq_false_iff.mpr c35
                      subst c35
                      have H1 : (some false) = some r := by rw [if_neg (show ¬ (false = true) by decide)] at H; exact H
                      clear H
                      have H := H1
                      clear H1
                      exact absurd ((Option.some.inj H).trans HRT_.out) (by decide)
                  · replace c33 := Bool.eq_false_iff.mpr c33
                    subst c33
                    have H1 : (some false) = some r := by rw [if_neg (show ¬ (false = true) by decide)] at H; exact H
                    clear H
                    have H := H1
                    clear H1
                    exact absurd ((Option.some.inj H).trans HRT_.out) (by decide)
                · replace c31 := Bool.eq_false_iff.mpr c31
                  subst c31
                  have H1 : (some false) = some r := by rw [if_neg (show ¬ (false = true) by decide)] at H; exact H
                  clear H
                  have H := H1
                  clear H1
                  exact absurd ((Option.some.inj H).trans HRT_.out) (by decide)
              · rw [if_neg c28] at H
                exact absurd H (by simp)
            · rw [if_neg c27] at H
              exact absurd H (by simp)
        · rw [if_neg c24] at H
          exact absurd H (by simp)
end Go.Proofs.Ytliohoalackhiaa.J
