/- Written by a program of this repo (wip/tools/gprint.py): what functions of the Go program compute, the proofs that they do, and the rows of statements. Conditions: those in each theorem. -/
import Derived.Test.YtliohoalackhiaaZIx0
import Derived.Test.YtliohoalackhiaaZW
namespace Go.Proofs.Ytliohoalackhiaa.I
open Go.RowKit Go.Proofs.YtliohoalackhiaaW.PrintWords Go.Proofs.YtliohoalackhiaaW.PrintLast Go.Proofs.YtliohoalackhiaaW.PrintMore
attribute [local go_sem] max2_int min2_int max_two min_two max_three min_three max_four min_four   -- for this text's walks alone
set_option linter.unusedVariables false
set_option linter.unusedSimpArgs false
mutual
def scullerref13_Right.j0 : Nat → Bool → Int → Int → Int → Int → Int → List Int → List Int → Option (Bool)
  | 0, _, _, _, _, _, _, _, _ => none
  | k + 1, x31, x183000, x183001, x183002, x183003, x183004, x183005, x183006 => if x31 = true then (some false) else (if (x183005.length : Int) > 0 then (if x183000 = 1 then (if (x183005.length : Int) > 4 then (scullerref13_Right.j1 k true x183000 x183001 x183002 x183003 x183004 x183005 x183006) else (if (x183006.length : Int) > 0 then (if x183000 < 2 then (scullerref13_Right.j1 k true x183000 x183001 x183002 x183003 x183004 x183005 x183006) else (if x183000 > 4 then (scullerref13_Right.j1 k true x183000 x183001 x183002 x183003 x183004 x183005 x183006) else (scullerref13_Right.j1 k (decide ((x183006.length : Int) > 64)) x183000 x183001 x183002 x183003 x183004 x183005 x183006))) else (scullerref13_Right.j1 k (decide ((x183006.length : Int) > 64)) x183000 x183001 x183002 x183003 x183004 x183005 x183006))) else (scullerref13_Right.j1 k true x183000 x183001 x183002 x183003 x183004 x183005 x183006)) else (if (x183005.length : Int) > 4 then (scullerref13_Right.j1 k true x183000 x183001 x183002 x183003 x183004 x183005 x183006) else (if (x183006.length : Int) > 0 then (if x183000 < 2 then (scullerref13_Right.j1 k true x183000 x183001 x183002 x183003 x183004 x183005 x183006) else (if x183000 > 4 then (scullerref13_Right.j1 k true x183000 x183001 x183002 x183003 x183004 x183005 x183006) else (scullerref13_Right.j1 k (decide ((x183006.length : Int) > 64)) x183000 x183001 x183002 x183003 x183004 x183005 x183006))) else (scullerref13_Right.j1 k (decide ((x183006.length : Int) > 64)) x183000 x183001 x183002 x183003 x183004 x183005 x183006))))
def scullerref13_Right.j1 : Nat → Bool → Int → Int → Int → Int → Int → List Int → List Int → Option (Bool)
  | 0, _, _, _, _, _, _, _, _ => none
  | k + 1, x68, x183000, x183001, x183002, x183003, x183004, x183005, x183006 => if x68 = true then (some false) else (scullerref13_Right.l0 k 0 x183000 x183001 x183002 x183003 x183004 x183005 x183006)
def scullerref13_Right.l0 : Nat → Int → Int → Int → Int → Int → Int → List Int → List Int → Option (Bool)
  | 0, _, _, _, _, _, _, _, _ => none
  | k + 1, x3, x183000, x183001, x183002, x183003, x183004, x183005, x183006 => if x3 < (x183005.length : Int) then (if 0 ≤ x3 then (if (rd x183005 x3) < 0 then (some false) else (if (rd x183005 x3) > 4096 then (some false) else (scullerref13_Right.l0 k (wrap64 (x3 + 1)) x183000 x183001 x183002 x183003 x183004 x183005 x183006))) else (none)) else (some true)
end
def scullerref13_Right.f (k : Nat) (a0_0 : Int) (a0_1 : Int) (a0_2 : Int) (a0_3 : Int) (a0_4 : Int) (l0_5 : List Int) (l0_6 : List Int) : Option (Bool) := if a0_0 < 1 then (scullerref13_Right.j0 k true a0_0 a0_1 a0_2 a0_3 a0_4 l0_5 l0_6) else (if a0_0 > 8 then (scullerref13_Right.j0 k true a0_0 a0_1 a0_2 a0_3 a0_4 l0_5 l0_6) else (if a0_2 < 0 then (scullerref13_Right.j0 k true a0_0 a0_1 a0_2 a0_3 a0_4 l0_5 l0_6) else (if a0_2 > 65535 then (scullerref13_Right.j0 k true a0_0 a0_1 a0_2 a0_3 a0_4 l0_5 l0_6) else (if a0_3 < 0 then (scullerref13_Right.j0 k true a0_0 a0_1 a0_2 a0_3 a0_4 l0_5 l0_6) else (scullerref13_Right.j0 k (decide (a0_3 > 65535)) a0_0 a0_1 a0_2 a0_3 a0_4 l0_5 l0_6)))))
set_option maxHeartbeats 8000000 in
set_option maxRecDepth 100000 in
theorem scullerref13_Right.calls (k : Nat) (a0_0 : Int) (a0_1 : Int) (a0_2 : Int) (a0_3 : Int) (a0_4 : Int) (A0_5 : Option Addr) (c0_5 : Nat) (l0_5 : List Int) (A0_6 : Option Addr) (c0_6 : Nat) (l0_6 : List Int) (r : Bool) (w : World) (hr0_5 : Kd.C (Kd.int .i64) w A0_5 l0_5.length l0_5) (hc0_5 : l0_5.length ≤ c0_5) (hr0_6 : Kd.C (Kd.int .u8) w A0_6 l0_6.length l0_6) (hc0_6 : l0_6.length ≤ c0_6) (h : scullerref13_Right.f k a0_0 a0_1 a0_2 a0_3 a0_4 l0_5 l0_6 = some r) :
    Calls Try.prog 87 #[.agg #[.int .i64 a0_0, .int .u64 a0_1, .int .i64 a0_2, .int .i64 a0_3, .int .u32 a0_4, .slice A0_5 l0_5.length c0_5, .slice A0_6 l0_6.length c0_6]] w fun e w' => e = .returned (.bool r) ∧ Below w.heap.size w w' := by
  have hu56 := Try.underlying56
  have HR0_5 := Aside0.mk hr0_5
  have HC0_5 := Aside0.mk hc0_5
  clear hr0_5 hc0_5
  have HR0_6 := Aside0.mk hr0_6
  have HC0_6 := Aside0.mk hc0_6
  clear hr0_6 hc0_6
  have HB := Aside0.mk (Below.refl w.heap.size w)
  have H : (if a0_0 < 1 then (scullerref13_Right.j0 k true a0_0 a0_1 a0_2 a0_3 a0_4 l0_5 l0_6) else (if a0_0 > 8 then (scullerref13_Right.j0 k true a0_0 a0_1 a0_2 a0_3 a0_4 l0_5 l0_6) else (if a0_2 < 0 then (scullerref13_Right.j0 k true a0_0 a0_1 a0_2 a0_3 a0_4 l0_5 l0_6) else (if a0_2 > 65535 then (scullerref13_Right.j0 k true a0_0 a0_1 a0_2 a0_3 a0_4 l0_5 l0_6) else (if a0_3 < 0 then (scullerref13_Right.j0 k true a0_0 a0_1 a0_2 a0_3 a0_4 l0_5 l0_6) else (scullerref13_Right.j0 k (decide (a0_3 > 65535)) a0_0 a0_1 a0_2 a0_3 a0_4 l0_5 l0_6)))))) = some r := h
  clear h
  have HC2 := Aside0.mk H
  clear H
  go_enter Try.func87, Try.ntmps87
  go_upto_region 1 with (first | ((with_reducible refine gate_dst (N := 1) rfl ?_); (try (refine gate_guard (by rfl) ?_; dsimp only)); refine box_event ?hg (N := 1) ?hd (cs := #[.int .i64 a0_0, .int .u64 a0_1, .int .i64 a0_2, .int .i64 a0_3, .int .u32 a0_4, .slice A0_5 l0_5.length c0_5, .slice A0_6 l0_6.length c0_6]) (t := 56) ?hr ?_; (case hd => rfl); (case hg => rfl); (case hr => first | (go_simp; done) | (go_simp; rfl)); intro gb182 hg w3 hbox hb; have n0_ := Aside0.mk (below_step (Far.Bb HB.out) hb); have n1_ := Aside0.mk (hbox); have n2_ := Aside0.mk ((by rw [hg]; exact (below_size (Far.Bb HB.out)) : w.heap.size ≤ gb182)); have n3_ := Aside0.mk ((by rw [hg]; exact (below_size (Far.Bb HB.out)) : w.heap.size ≤ gb182)); clear HB; have HB := n0_; have BK182 := n1_; have GW182 := n2_; have GE182 := n3_; clear n0_ n1_ n2_ n3_; clear hb hbox hg))
  (try simp only [Act.put, List.setIfInBounds_toArray, List.set_cons_zero, List.set_cons_succ])
  go_cut [31] (fun v31 wc => ∃ (kq : Nat) (x31_1 : Bool), v31 = .bool x31_1 ∧ Aside0 (scullerref13_Right.j0 kq x31_1 a0_0 a0_1 a0_2 a0_3 a0_4 l0_5 l0_6 = some r) ∧ Aside0 (kq ≤ k) ∧ Aside0 (wc.heap[gb182]? = some (.cells #[.int .i64 a0_0, .int .u64 a0_1, .int .i64 a0_2, .int .i64 a0_3, .int .u32 a0_4, (.slice A0_5 l0_5.length c0_5), (.slice A0_6 l0_6.length c0_6)] 56 (0, 0))) ∧ Aside0 (Below w.heap.size w wc))
  case first =>
    have H := HC2.out
    clear HC2
    by_cases c4 : a0_0 < 1
    · rw [if_pos c4] at H
      have c4b0 : decide (a0_0 < 1) = true := decide_eq_true c4
      clear c4
      (first | rw [c4b0] | (simp only [i64_w, i32_w]; rw [c4b0]) | skip)
      have H' := Aside0.mk H
      clear H
      have hcz5_0 : w3.cell? ⟨gb182, 0, none⟩ = some (.int .i64 a0_0) := (blk_cell BK182.out 0).trans rfl
      have hcz5_1 : w3.cell? ⟨gb182, 1, none⟩ = some (.int .u64 a0_1) := (blk_cell BK182.out 1).trans rfl
      have hcz5_2 : w3.cell? ⟨gb182, 2, none⟩ = some (.int .i64 a0_2) := (blk_cell BK182.out 2).trans rfl
      have hcz5_3 : w3.cell? ⟨gb182, 3, none⟩ = some (.int .i64 a0_3) := (blk_cell BK182.out 3).trans rfl
      have hcz5_4 : w3.cell? ⟨gb182, 4, none⟩ = some (.int .u32 a0_4) := (blk_cell BK182.out 4).trans rfl
      have hcz5_5 : w3.cell? ⟨gb182, 5, none⟩ = some (.slice A0_5 l0_5.length c0_5) := (blk_cell BK182.out 5).trans rfl
      have hcz5_6 : w3.cell? ⟨gb182, 6, none⟩ = some (.slice A0_6 l0_6.length c0_6) := (blk_cell BK182.out 6).trans rfl
      have hfz5_0 := blk_frozen BK182.out 0
      have hfz5_1 := blk_frozen BK182.out 1
      have hfz5_2 := blk_frozen BK182.out 2
      have hfz5_3 := blk_frozen BK182.out 3
      have hfz5_4 := blk_frozen BK182.out 4
      have hfz5_5 := blk_frozen BK182.out 5
      have hfz5_6 := blk_frozen BK182.out 6
      go_wp2
      go_meet
      case rel => exact ⟨_, (true), (by first | rfl | (simp; done) | (simp [*]; done)), H', ⟨by first | omega | exact Nat.le_refl _⟩, ⟨by (with_reducible repeat (first | refine blk_drewN ?_ _ | refine blk_drew ?_ | refine blk_alloc ?_ _)); exact BK182.out⟩, ⟨by repeat (first | (with_reducible first | exact HB.out | apply below_alloc | apply pw_below_drewN | apply below_drew1 | refine below_set ?_ GE182.out) | exact HB.out)⟩⟩
    · rw [if_neg c4] at H
      have c4b0 : decide (a0_0 < 1) = false := decide_eq_false c4
      clear c4
      (first | rw [c4b0] | (simp only [i64_w, i32_w]; rw [c4b0]) | skip)
      by_cases c6 : a0_0 > 8
      · rw [if_pos c6] at H
        have c6b0 : decide (8 < a0_0) = true := decide_eq_true c6
        clear c6
        have H' := Aside0.mk H
        clear H
        have hcz7_0 : w3.cell? ⟨gb182, 0, none⟩ = some (.int .i64 a0_0) := (blk_cell BK182.out 0).trans rfl
        have hcz7_1 : w3.cell? ⟨gb182, 1, none⟩ = some (.int .u64 a0_1) := (blk_cell BK182.out 1).trans rfl
        have hcz7_2 : w3.cell? ⟨gb182, 2, none⟩ = some (.int .i64 a0_2) := (blk_cell BK182.out 2).trans rfl
        have hcz7_3 : w3.cell? ⟨gb182, 3, none⟩ = some (.int .i64 a0_3) := (blk_cell BK182.out 3).trans rfl
        have hcz7_4 : w3.cell? ⟨gb182, 4, none⟩ = some (.int .u32 a0_4) := (blk_cell BK182.out 4).trans rfl
        have hcz7_5 : w3.cell? ⟨gb182, 5, none⟩ = some (.slice A0_5 l0_5.length c0_5) := (blk_cell BK182.out 5).trans rfl
        have hcz7_6 : w3.cell? ⟨gb182, 6, none⟩ = some (.slice A0_6 l0_6.length c0_6) := (blk_cell BK182.out 6).trans rfl
        have hfz7_0 := blk_frozen BK182.out 0
        have hfz7_1 := blk_frozen BK182.out 1
        have hfz7_2 := blk_frozen BK182.out 2
        have hfz7_3 := blk_frozen BK182.out 3
        have hfz7_4 := blk_frozen BK182.out 4
        have hfz7_5 := blk_frozen BK182.out 5
        have hfz7_6 := blk_frozen BK182.out 6
        go_wp2
        go_meet
        case rel => exact ⟨_, (true), (by first | rfl | (simp; done) | (simp [*]; done)), H', ⟨by first | omega | exact Nat.le_refl _⟩, ⟨by (with_reducible repeat (first | refine blk_drewN ?_ _ | refine blk_drew ?_ | refine blk_alloc ?_ _)); exact BK182.out⟩, ⟨by repeat (first | (with_reducible first | exact HB.out | apply below_alloc | apply pw_below_drewN | apply below_drew1 | refine below_set ?_ GE182.out) | exact HB.out)⟩⟩
      · rw [if_neg c6] at H
        have c6b0 : decide (8 < a0_0) = false := decide_eq_false c6
        clear c6
        by_cases c8 : a0_2 < 0
        · rw [if_pos c8] at H
          have c8b0 : decide (a0_2 < 0) = true := decide_eq_true c8
          clear c8
          have H' := Aside0.mk H
          clear H
          have hcz9_0 : w3.cell? ⟨gb182, 0, none⟩ = some (.int .i64 a0_0) := (blk_cell BK182.out 0).trans rfl
          have hcz9_1 : w3.cell? ⟨gb182, 1, none⟩ = some (.int .u64 a0_1) := (blk_cell BK182.out 1).trans rfl
          have hcz9_2 : w3.cell? ⟨gb182, 2, none⟩ = some (.int .i64 a0_2) := (blk_cell BK182.out 2).trans rfl
          have hcz9_3 : w3.cell? ⟨gb182, 3, none⟩ = some (.int .i64 a0_3) := (blk_cell BK182.out 3).trans rfl
          have hcz9_4 : w3.cell? ⟨gb182, 4, none⟩ = some (.int .u32 a0_4) := (blk_cell BK182.out 4).trans rfl
          have hcz9_5 : w3.cell? ⟨gb182, 5, none⟩ = some (.slice A0_5 l0_5.length c0_5) := (blk_cell BK182.out 5).trans rfl
          have hcz9_6 : w3.cell? ⟨gb182, 6, none⟩ = some (.slice A0_6 l0_6.length c0_6) := (blk_cell BK182.out 6).trans rfl
          have hfz9_0 := blk_frozen BK182.out 0
          have hfz9_1 := blk_frozen BK182.out 1
          have hfz9_2 := blk_frozen BK182.out 2
          have hfz9_3 := blk_frozen BK182.out 3
          have hfz9_4 := blk_frozen BK182.out 4
          have hfz9_5 := blk_frozen BK182.out 5
          have hfz9_6 := blk_frozen BK182.out 6
          go_wp2
          go_meet
          case rel => exact ⟨_, (true), (by first | rfl | (simp; done) | (simp [*]; done)), H', ⟨by first | omega | exact Nat.le_refl _⟩, ⟨by (with_reducible repeat (first | refine blk_drewN ?_ _ | refine blk_drew ?_ | refine blk_alloc ?_ _)); exact BK182.out⟩, ⟨by repeat (first | (with_reducible first | exact HB.out | apply below_alloc | apply pw_below_drewN | apply below_drew1 | refine below_set ?_ GE182.out) | exact HB.out)⟩⟩
        · rw [if_neg c8] at H
          have c8b0 : decide (a0_2 < 0) = false := decide_eq_false c8
          clear c8
          by_cases c10 : a0_2 > 65535
          · rw [if_pos c10] at H
            have c10b0 : decide (65535 < a0_2) = true := decide_eq_true c10
            clear c10
            have H' := Aside0.mk H
            clear H
            have hcz11_0 : w3.cell? ⟨gb182, 0, none⟩ = some (.int .i64 a0_0) := (blk_cell BK182.out 0).trans rfl
            have hcz11_1 : w3.cell? ⟨gb182, 1, none⟩ = some (.int .u64 a0_1) := (blk_cell BK182.out 1).trans rfl
            have hcz11_2 : w3.cell? ⟨gb182, 2, none⟩ = some (.int .i64 a0_2) := (blk_cell BK182.out 2).trans rfl
            have hcz11_3 : w3.cell? ⟨gb182, 3, none⟩ = some (.int .i64 a0_3) := (blk_cell BK182.out 3).trans rfl
            have hcz11_4 : w3.cell? ⟨gb182, 4, none⟩ = some (.int .u32 a0_4) := (blk_cell BK182.out 4).trans rfl
            have hcz11_5 : w3.cell? ⟨gb182, 5, none⟩ = some (.slice A0_5 l0_5.length c0_5) := (blk_cell BK182.out 5).trans rfl
            have hcz11_6 : w3.cell? ⟨gb182, 6, none⟩ = some (.slice A0_6 l0_6.length c0_6) := (blk_cell BK182.out 6).trans rfl
            have hfz11_0 := blk_frozen BK182.out 0
            have hfz11_1 := blk_frozen BK182.out 1
            have hfz11_2 := blk_frozen BK182.out 2
            have hfz11_3 := blk_frozen BK182.out 3
            have hfz11_4 := blk_frozen BK182.out 4
            have hfz11_5 := blk_frozen BK182.out 5
            have hfz11_6 := blk_frozen BK182.out 6
            go_wp2
            go_meet
            case rel => exact ⟨_, (true), (by first | rfl | (simp; done) | (simp [*]; done)), H', ⟨by first | omega | exact Nat.le_refl _⟩, ⟨by (with_reducible repeat (first | refine blk_drewN ?_ _ | refine blk_drew ?_ | refine blk_alloc ?_ _)); exact BK182.out⟩, ⟨by repeat (first | (with_reducible first | exact HB.out | apply below_alloc | apply pw_below_drewN | apply below_drew1 | refine below_set ?_ GE182.out) | exact HB.out)⟩⟩
          · rw [if_neg c10] at H
            have c10b0 : decide (65535 < a0_2) = false := decide_eq_false c10
            clear c10
            by_cases c12 : a0_3 < 0
            · rw [if_pos c12] at H
              have c12b0 : decide (a0_3 < 0) = true := decide_eq_true c12
              clear c12
              have H' := Aside0.mk H
              clear H
              have hcz13_0 : w3.cell? ⟨gb182, 0, none⟩ = some (.int .i64 a0_0) := (blk_cell BK182.out 0).trans rfl
              have hcz13_1 : w3.cell? ⟨gb182, 1, none⟩ = some (.int .u64 a0_1) := (blk_cell BK182.out 1).trans rfl
              have hcz13_2 : w3.cell? ⟨gb182, 2, none⟩ = some (.int .i64 a0_2) := (blk_cell BK182.out 2).trans rfl
              have hcz13_3 : w3.cell? ⟨gb182, 3, none⟩ = some (.int .i64 a0_3) := (blk_cell BK182.out 3).trans rfl
              have hcz13_4 : w3.cell? ⟨gb182, 4, none⟩ = some (.int .u32 a0_4) := (blk_cell BK182.out 4).trans rfl
              have hcz13_5 : w3.cell? ⟨gb182, 5, none⟩ = some (.slice A0_5 l0_5.length c0_5) := (blk_cell BK182.out 5).trans rfl
              have hcz13_6 : w3.cell? ⟨gb182, 6, none⟩ = some (.slice A0_6 l0_6.length c0_6) := (blk_cell BK182.out 6).trans rfl
              have hfz13_0 := blk_frozen BK182.out 0
              have hfz13_1 := blk_frozen BK182.out 1
              have hfz13_2 := blk_frozen BK182.out 2
              have hfz13_3 := blk_frozen BK182.out 3
              have hfz13_4 := blk_frozen BK182.out 4
              have hfz13_5 := blk_frozen BK182.out 5
              have hfz13_6 := blk_frozen BK182.out 6
              go_wp2
              go_meet
              case rel => exact ⟨_, (true), (by first | rfl | (simp; done) | (simp [*]; done)), H', ⟨by first | omega | exact Nat.le_refl _⟩, ⟨by (with_reducible repeat (first | refine blk_drewN ?_ _ | refine blk_drew ?_ | refine blk_alloc ?_ _)); exact BK182.out⟩, ⟨by repeat (first | (with_reducible first | exact HB.out | apply below_alloc | apply pw_below_drewN | apply below_drew1 | refine below_set ?_ GE182.out) | exact HB.out)⟩⟩
            · rw [if_neg c12] at H
              have c12b0 : decide (a0_3 < 0) = false := decide_eq_false c12
              clear c12
              have H' := Aside0.mk H
              clear H
              have hcz14_0 : w3.cell? ⟨gb182, 0, none⟩ = some (.int .i64 a0_0) := (blk_cell BK182.out 0).trans rfl
              have hcz14_1 : w3.cell? ⟨gb182, 1, none⟩ = some (.int .u64 a0_1) := (blk_cell BK182.out 1).trans rfl
              have hcz14_2 : w3.cell? ⟨gb182, 2, none⟩ = some (.int .i64 a0_2) := (blk_cell BK182.out 2).trans rfl
              have hcz14_3 : w3.cell? ⟨gb182, 3, none⟩ = some (.int .i64 a0_3) := (blk_cell BK182.out 3).trans rfl
              have hcz14_4 : w3.cell? ⟨gb182, 4, none⟩ = some (.int .u32 a0_4) := (blk_cell BK182.out 4).trans rfl
              have hcz14_5 : w3.cell? ⟨gb182, 5, none⟩ = some (.slice A0_5 l0_5.length c0_5) := (blk_cell BK182.out 5).trans rfl
              have hcz14_6 : w3.cell? ⟨gb182, 6, none⟩ = some (.slice A0_6 l0_6.length c0_6) := (blk_cell BK182.out 6).trans rfl
              have hfz14_0 := blk_frozen BK182.out 0
              have hfz14_1 := blk_frozen BK182.out 1
              have hfz14_2 := blk_frozen BK182.out 2
              have hfz14_3 := blk_frozen BK182.out 3
              have hfz14_4 := blk_frozen BK182.out 4
              have hfz14_5 := blk_frozen BK182.out 5
              have hfz14_6 := blk_frozen BK182.out 6
              go_wp2
              go_meet
              case rel => exact ⟨_, (decide (a0_3 > 65535)), (by first | rfl | (simp; done) | (simp [*]; done)), H', ⟨by first | omega | exact Nat.le_refl _⟩, ⟨by (with_reducible repeat (first | refine blk_drewN ?_ _ | refine blk_drew ?_ | refine blk_alloc ?_ _)); exact BK182.out⟩, ⟨by repeat (first | (with_reducible first | exact HB.out | apply below_alloc | apply pw_below_drewN | apply below_drew1 | refine below_set ?_ GE182.out) | exact HB.out)⟩⟩
  case rest =>
    clear HC2; (try clear c1); (try clear p2); (try clear c4); (try clear c4b0); (try clear c6); (try clear c6b0); (try clear c8); (try clear c8b0); (try clear c10); (try clear c10b0); (try clear c12); (try clear c12b0); (try clear hcz11_0); (try clear hcz11_1); (try clear hcz11_2); (try clear hcz11_3); (try clear hcz11_4); (try clear hcz11_5); (try clear hcz11_6); (try clear hcz13_0); (try clear hcz13_1); (try clear hcz13_2); (try clear hcz13_3); (try clear hcz13_4); (try clear hcz13_5); (try clear hcz13_6); (try clear hcz14_0); (try clear hcz14_1); (try clear hcz14_2); (try clear hcz14_3); (try clear hcz14_4); (try clear hcz14_5); (try clear hcz14_6); (try clear hcz5_0); (try clear hcz5_1); (try clear hcz5_2); (try clear hcz5_3); (try clear hcz5_4); (try clear hcz5_5); (try clear hcz5_6); (try clear hcz7_0); (try clear hcz7_1); (try clear hcz7_2); (try clear hcz7_3); (try clear hcz7_4); (try clear hcz7_5); (try clear hcz7_6); (try clear hcz9_0); (try clear hcz9_1); (try clear hcz9_2); (try clear hcz9_3); (try clear hcz9_4); (try clear hcz9_5); (try clear hcz9_6); (try clear hfz11_0); (try clear hfz11_1); (try clear hfz11_2); (try clear hfz11_3); (try clear hfz11_4); (try clear hfz11_5); (try clear hfz11_6); (try clear hfz13_0); (try clear hfz13_1); (try clear hfz13_2); (try clear hfz13_3); (try clear hfz13_4); (try clear hfz13_5); (try clear hfz13_6); (try clear hfz14_0); (try clear hfz14_1); (try clear hfz14_2); (try clear hfz14_3); (try clear hfz14_4); (try clear hfz14_5); (try clear hfz14_6); (try clear hfz5_0); (try clear hfz5_1); (try clear hfz5_2); (try clear hfz5_3); (try clear hfz5_4); (try clear hfz5_5); (try clear hfz5_6); (try clear hfz7_0); (try clear hfz7_1); (try clear hfz7_2); (try clear hfz7_3); (try clear hfz7_4); (try clear hfz7_5); (try clear hfz7_6); (try clear hfz9_0); (try clear hfz9_1); (try clear hfz9_2); (try clear hfz9_3); (try clear hfz9_4); (try clear hfz9_5); (try clear hfz9_6)
    obtain ⟨kq, x31_1, rfl, HA, HJ1, BK182, HB⟩ := hcut
    cases kq with
    | zero => exact absurd HA.out (by simp [scullerref13_Right.j0])
    | succ kj1 =>
      have H := HA.out
      clear HA
      simp only [scullerref13_Right.j0] at H
      by_cases c15 : x31_1 = true
      · subst c15
        have H1 : (some false) = some r := by rw [if_pos rfl] at H; exact H
        clear H
        have H := H1
        clear H1
        obtain rfl := Option.some.inj H
        go_wp2
        go_ret
        exact ⟨by first | rfl | (simp [errW_none, errW_some] <;> rfl) | (simp [*, errW_none, errW_some] <;> rfl) | (refine congrArg (fun z_ : Int => Ending.returned (.bool (z_ == _))) ?_; simp only [IntKind.wrap, IntKind.bits, IntKind.signed]; simp <;> omega), by repeat (first | (with_reducible first | exact HB.out | apply below_alloc | apply pw_below_drewN | apply below_drew1 | refine below_set ?_ GE182.out) | exact HB.out)⟩
      · replace c15 := Bool.eq_false_iff.mpr c15
        subst c15
        have H1 : (if (l0_5.length : Int) > 0 then (if a0_0 = 1 then (if (l0_5.length : Int) > 4 then (scullerref13_Right.j1 kj1 true a0_0 a0_1 a0_2 a0_3 a0_4 l0_5 l0_6) else (if (l0_6.length : Int) > 0 then (if a0_0 < 2 then (scullerref13_Right.j1 kj1 true a0_0 a0_1 a0_2 a0_3 a0_4 l0_5 l0_6) else (if a0_0 > 4 then (scullerref13_Right.j1 kj1 true a0_0 a0_1 a0_2 a0_3 a0_4 l0_5 l0_6) else (scullerref13_Right.j1 kj1 (decide ((l0_6.length : Int) > 64)) a0_0 a0_1 a0_2 a0_3 a0_4 l0_5 l0_6))) else (scullerref13_Right.j1 kj1 (decide ((l0_6.length : Int) > 64)) a0_0 a0_1 a0_2 a0_3 a0_4 l0_5 l0_6))) else (scullerref13_Right.j1 kj1 true a0_0 a0_1 a0_2 a0_3 a0_4 l0_5 l0_6)) else (if (l0_5.length : Int) > 4 then (scullerref13_Right.j1 kj1 true a0_0 a0_1 a0_2 a0_3 a0_4 l0_5 l0_6) else (if (l0_6.length : Int) > 0 then (if a0_0 < 2 then (scullerref13_Right.j1 kj1 true a0_0 a0_1 a0_2 a0_3 a0_4 l0_5 l0_6) else (if a0_0 > 4 then (scullerref13_Right.j1 kj1 true a0_0 a0_1 a0_2 a0_3 a0_4 l0_5 l0_6) else (scullerref13_Right.j1 kj1 (decide ((l0_6.length : Int) > 64)) a0_0 a0_1 a0_2 a0_3 a0_4 l0_5 l0_6))) else (scullerref13_Right.j1 kj1 (decide ((l0_6.length : Int) > 64)) a0_0 a0_1 a0_2 a0_3 a0_4 l0_5 l0_6)))) = some r := by rw [if_neg (show ¬ (false = true) by decide)] at H; exact H
        clear H
        have H := H1
        clear H1
        have HC16 := Aside0.mk H
        clear H
        go_upto_region 3 with (fail)
        go_cut [68] (fun v68 wc => ∃ (kq : Nat) (x68_15 : Bool), v68 = .bool x68_15 ∧ Aside0 (scullerref13_Right.j1 kq x68_15 a0_0 a0_1 a0_2 a0_3 a0_4 l0_5 l0_6 = some r) ∧ Aside0 (kq ≤ kj1) ∧ Aside0 (wc.heap[gb182]? = some (.cells #[.int .i64 a0_0, .int .u64 a0_1, .int .i64 a0_2, .int .i64 a0_3, .int .u32 a0_4, (.slice A0_5 l0_5.length c0_5), (.slice A0_6 l0_6.length c0_6)] 56 (0, 0))) ∧ Aside0 (Below w.heap.size w wc))
        case first =>
          have H := HC16.out
          clear HC16
          by_cases c17 : (l0_5.length : Int) > 0
          · rw [if_pos c17] at H
            have c17b0 : decide (0 < (l0_5.length : Int)) = true := decide_eq_true c17
            have c17b1 : decide (0 < l0_5.length) = true := decide_eq_true (by omega)
            clear c17
            (first | rw [c17b0] | (simp only [i64_w, i32_w]; rw [c17b0]) | skip)
            by_cases c18 : a0_0 = 1
            · rw [if_pos c18] at H
              have c18b0 : (a0_0 == 1) = true := beq_iff_eq.mpr c18
              have c18b1 : (a0_0 != 1) = false := bne_eq_false_iff_eq.mpr c18
              clear c18
              by_cases c19 : (l0_5.length : Int) > 4
              · rw [if_pos c19] at H
                have c19b0 : decide (4 < (l0_5.length : Int)) = true := decide_eq_true c19
                have c19b1 : decide (4 < l0_5.length) = true := decide_eq_true (by omega)
                clear c19
                have H' := Aside0.mk H
                clear H
                have hcz20_0 : wc.cell? ⟨gb182, 0, none⟩ = some (.int .i64 a0_0) := (blk_cell BK182.out 0).trans rfl
                have hcz20_1 : wc.cell? ⟨gb182, 1, none⟩ = some (.int .u64 a0_1) := (blk_cell BK182.out 1).trans rfl
                have hcz20_2 : wc.cell? ⟨gb182, 2, none⟩ = some (.int .i64 a0_2) := (blk_cell BK182.out 2).trans rfl
                have hcz20_3 : wc.cell? ⟨gb182, 3, none⟩ = some (.int .i64 a0_3) := (blk_cell BK182.out 3).trans rfl
                have hcz20_4 : wc.cell? ⟨gb182, 4, none⟩ = some (.int .u32 a0_4) := (blk_cell BK182.out 4).trans rfl
                have hcz20_5 : wc.cell? ⟨gb182, 5, none⟩ = some (.slice A0_5 l0_5.length c0_5) := (blk_cell BK182.out 5).trans rfl
                have hcz20_6 : wc.cell? ⟨gb182, 6, none⟩ = some (.slice A0_6 l0_6.length c0_6) := (blk_cell BK182.out 6).trans rfl
                have hfz20_0 := blk_frozen BK182.out 0
                have hfz20_1 := blk_frozen BK182.out 1
                have hfz20_2 := blk_frozen BK182.out 2
                have hfz20_3 := blk_frozen BK182.out 3
                have hfz20_4 := blk_frozen BK182.out 4
                have hfz20_5 := blk_frozen BK182.out 5
                have hfz20_6 := blk_frozen BK182.out 6
                go_wp2
                go_meet
                case rel => exact ⟨_, (true), (by first | rfl | (simp; done) | (simp [*]; done)), H', ⟨by have := HJ1.out; first | omega | exact Nat.le_refl _⟩, ⟨by (with_reducible repeat (first | refine blk_drewN ?_ _ | refine blk_drew ?_ | refine blk_alloc ?_ _)); exact BK182.out⟩, ⟨by repeat (first | (with_reducible first | exact HB.out | apply below_alloc | apply pw_below_drewN | apply below_drew1 | refine below_set ?_ GE182.out) | exact HB.out)⟩⟩
              · rw [if_neg c19] at H
                have c19b0 : decide (4 < (l0_5.length : Int)) = false := decide_eq_false c19
                have c19b1 : decide (4 < l0_5.length) = false := decide_eq_false (by omega)
                clear c19
                by_cases c21 : (l0_6.length : Int) > 0
                · rw [if_pos c21] at H
                  have c21b0 : decide (0 < (l0_6.length : Int)) = true := decide_eq_true c21
                  have c21b1 : decide (0 < l0_6.length) = true := decide_eq_true (by omega)
                  clear c21
                  by_cases c22 : a0_0 < 2
                  · rw [if_pos c22] at H
                    have c22b0 : decide (a0_0 < 2) = true := decide_eq_true c22
                    clear c22
                    have H' := Aside0.mk H
                    clear H
                    have hcz23_0 : wc.cell? ⟨gb182, 0, none⟩ = some (.int .i64 a0_0) := (blk_cell BK182.out 0).trans rfl
                    have hcz23_1 : wc.cell? ⟨gb182, 1, none⟩ = some (.int .u64 a0_1) := (blk_cell BK182.out 1).trans rfl
                    have hcz23_2 : wc.cell? ⟨gb182, 2, none⟩ = some (.int .i64 a0_2) := (blk_cell BK182.out 2).trans rfl
                    have hcz23_3 : wc.cell? ⟨gb182, 3, none⟩ = some (.int .i64 a0_3) := (blk_cell BK182.out 3).trans rfl
                    have hcz23_4 : wc.cell? ⟨gb182, 4, none⟩ = some (.int .u32 a0_4) := (blk_cell BK182.out 4).trans rfl
                    have hcz23_5 : wc.cell? ⟨gb182, 5, none⟩ = some (.slice A0_5 l0_5.length c0_5) := (blk_cell BK182.out 5).trans rfl
                    have hcz23_6 : wc.cell? ⟨gb182, 6, none⟩ = some (.slice A0_6 l0_6.length c0_6) := (blk_cell BK182.out 6).trans rfl
                    have hfz23_0 := blk_frozen BK182.out 0
                    have hfz23_1 := blk_frozen BK182.out 1
                    have hfz23_2 := blk_frozen BK182.out 2
                    have hfz23_3 := blk_frozen BK182.out 3
                    have hfz23_4 := blk_frozen BK182.out 4
                    have hfz23_5 := blk_frozen BK182.out 5
                    have hfz23_6 := blk_frozen BK182.out 6
                    go_wp2
                    go_meet
                    case rel => exact ⟨_, (true), (by first | rfl | (simp; done) | (simp [*]; done)), H', ⟨by have := HJ1.out; first | omega | exact Nat.le_refl _⟩, ⟨by (with_reducible repeat (first | refine blk_drewN ?_ _ | refine blk_drew ?_ | refine blk_alloc ?_ _)); exact BK182.out⟩, ⟨by repeat (first | (with_reducible first | exact HB.out | apply below_alloc | apply pw_below_drewN | apply below_drew1 | refine below_set ?_ GE182.out) | exact HB.out)⟩⟩
                  · rw [if_neg c22] at H
                    have c22b0 : decide (a0_0 < 2) = false := decide_eq_false c22
                    clear c22
                    by_cases c24 : a0_0 > 4
                    · rw [if_pos c24] at H
                      have c24b0 : decide (4 < a0_0) = true := decide_eq_true c24
                      clear c24
                      have H' := Aside0.mk H
                      clear H
                      have hcz25_0 : wc.cell? ⟨gb182, 0, none⟩ = some (.int .i64 a0_0) := (blk_cell BK182.out 0).trans rfl
                      have hcz25_1 : wc.cell? ⟨gb182, 1, none⟩ = some (.int .u64 a0_1) := (blk_cell BK182.out 1).trans rfl
                      have hcz25_2 : wc.cell? ⟨gb182, 2, none⟩ = some (.int .i64 a0_2) := (blk_cell BK182.out 2).trans rfl
                      have hcz25_3 : wc.cell? ⟨gb182, 3, none⟩ = some (.int .i64 a0_3) := (blk_cell BK182.out 3).trans rfl
                      have hcz25_4 : wc.cell? ⟨gb182, 4, none⟩ = some (.int .u32 a0_4) := (blk_cell BK182.out 4).trans rfl
                      have hcz25_5 : wc.cell? ⟨gb182, 5, none⟩ = some (.slice A0_5 l0_5.length c0_5) := (blk_cell BK182.out 5).trans rfl
                      have hcz25_6 : wc.cell? ⟨gb182, 6, none⟩ = some (.slice A0_6 l0_6.length c0_6) := (blk_cell BK182.out 6).trans rfl
                      have hfz25_0 := blk_frozen BK182.out 0
                      have hfz25_1 := blk_frozen BK182.out 1
                      have hfz25_2 := blk_frozen BK182.out 2
                      have hfz25_3 := blk_frozen BK182.out 3
                      have hfz25_4 := blk_frozen BK182.out 4
                      have hfz25_5 := blk_frozen BK182.out 5
                      have hfz25_6 := blk_frozen BK182.out 6
                      go_wp2
                      go_meet
                      case rel => exact ⟨_, (true), (by first | rfl | (simp; done) | (simp [*]; done)), H', ⟨by have := HJ1.out; first | omega | exact Nat.le_refl _⟩, ⟨by (with_reducible repeat (first | refine blk_drewN ?_ _ | refine blk_drew ?_ | refine blk_alloc ?_ _)); exact BK182.out⟩, ⟨by repeat (first | (with_reducible first | exact HB.out | apply below_alloc | apply pw_below_drewN | apply below_drew1 | refine below_set ?_ GE182.out) | exact HB.out)⟩⟩
                    · rw [if_neg c24] at H
                      have c24b0 : decide (4 < a0_0) = false := decide_eq_false c24
                      clear c24
                      have H' := Aside0.mk H
                      clear H
                      have hcz26_0 : wc.cell? ⟨gb182, 0, none⟩ = some (.int .i64 a0_0) := (blk_cell BK182.out 0).trans rfl
                      have hcz26_1 : wc.cell? ⟨gb182, 1, none⟩ = some (.int .u64 a0_1) := (blk_cell BK182.out 1).trans rfl
                      have hcz26_2 : wc.cell? ⟨gb182, 2, none⟩ = some (.int .i64 a0_2) := (blk_cell BK182.out 2).trans rfl
                      have hcz26_3 : wc.cell? ⟨gb182, 3, none⟩ = some (.int .i64 a0_3) := (blk_cell BK182.out 3).trans rfl
                      have hcz26_4 : wc.cell? ⟨gb182, 4, none⟩ = some (.int .u32 a0_4) := (blk_cell BK182.out 4).trans rfl
                      have hcz26_5 : wc.cell? ⟨gb182, 5, none⟩ = some (.slice A0_5 l0_5.length c0_5) := (blk_cell BK182.out 5).trans rfl
                      have hcz26_6 : wc.cell? ⟨gb182, 6, none⟩ = some (.slice A0_6 l0_6.length c0_6) := (blk_cell BK182.out 6).trans rfl
                      have hfz26_0 := blk_frozen BK182.out 0
                      have hfz26_1 := blk_frozen BK182.out 1
                      have hfz26_2 := blk_frozen BK182.out 2
                      have hfz26_3 := blk_frozen BK182.out 3
                      have hfz26_4 := blk_frozen BK182.out 4
                      have hfz26_5 := blk_frozen BK182.out 5
                      have hfz26_6 := blk_frozen BK182.out 6
                      go_wp2
                      go_meet
                      case rel => exact ⟨_, (decide ((l0_6.length : Int) > 64)), (by first | rfl | (simp; done) | (simp [*]; done)), H', ⟨by have := HJ1.out; first | omega | exact Nat.le_refl _⟩, ⟨by (with_reducible repeat (first | refine blk_drewN ?_ _ | refine blk_drew ?_ | refine blk_alloc ?_ _)); exact BK182.out⟩, ⟨by repeat (first | (with_reducible first | exact HB.out | apply below_alloc | apply pw_below_drewN | apply below_drew1 | refine below_set ?_ GE182.out) | exact HB.out)⟩⟩
                · rw [if_neg c21] at H
                  have c21b0 : decide (0 < (l0_6.length : Int)) = false := decide_eq_false c21
                  have c21b1 : decide (0 < l0_6.length) = false := decide_eq_false (by omega)
                  clear c21
                  have H' := Aside0.mk H
                  clear H
                  have hcz27_0 : wc.cell? ⟨gb182, 0, none⟩ = some (.int .i64 a0_0) := (blk_cell BK182.out 0).trans rfl
                  have hcz27_1 : wc.cell? ⟨gb182, 1, none⟩ = some (.int .u64 a0_1) := (blk_cell BK182.out 1).trans rfl
                  have hcz27_2 : wc.cell? ⟨gb182, 2, none⟩ = some (.int .i64 a0_2) := (blk_cell BK182.out 2).trans rfl
                  have hcz27_3 : wc.cell? ⟨gb182, 3, none⟩ = some (.int .i64 a0_3) := (blk_cell BK182.out 3).trans rfl
                  have hcz27_4 : wc.cell? ⟨gb182, 4, none⟩ = some (.int .u32 a0_4) := (blk_cell BK182.out 4).trans rfl
                  have hcz27_5 : wc.cell? ⟨gb182, 5, none⟩ = some (.slice A0_5 l0_5.length c0_5) := (blk_cell BK182.out 5).trans rfl
                  have hcz27_6 : wc.cell? ⟨gb182, 6, none⟩ = some (.slice A0_6 l0_6.length c0_6) := (blk_cell BK182.out 6).trans rfl
                  have hfz27_0 := blk_frozen BK182.out 0
                  have hfz27_1 := blk_frozen BK182.out 1
                  have hfz27_2 := blk_frozen BK182.out 2
                  have hfz27_3 := blk_frozen BK182.out 3
                  have hfz27_4 := blk_frozen BK182.out 4
                  have hfz27_5 := blk_frozen BK182.out 5
                  have hfz27_6 := blk_frozen BK182.out 6
                  go_wp2
                  go_meet
                  case rel => exact ⟨_, (decide ((l0_6.length : Int) > 64)), (by first | rfl | (simp; done) | (simp [*]; done)), H', ⟨by have := HJ1.out; first | omega | exact Nat.le_refl _⟩, ⟨by (with_reducible repeat (first | refine blk_drewN ?_ _ | refine blk_drew ?_ | refine blk_alloc ?_ _)); exact BK182.out⟩, ⟨by repeat (first | (with_reducible first | exact HB.out | apply below_alloc | apply pw_below_drewN | apply below_drew1 | refine below_set ?_ GE182.out) | exact HB.out)⟩⟩
            · rw [if_neg c18] at H
              have c18b0 : (a0_0 == 1) = false := beq_eq_false_iff_ne.mpr c18
              have c18b1 : (a0_0 != 1) = true := bne_iff_ne.mpr c18
              have H' := Aside0.mk H
              clear H
              have hcz28_0 : wc.cell? ⟨gb182, 0, none⟩ = some (.int .i64 a0_0) := (blk_cell BK182.out 0).trans rfl
              have hcz28_1 : wc.cell? ⟨gb182, 1, none⟩ = some (.int .u64 a0_1) := (blk_cell BK182.out 1).trans rfl
              have hcz28_2 : wc.cell? ⟨gb182, 2, none⟩ = some (.int .i64 a0_2) := (blk_cell BK182.out 2).trans rfl
              have hcz28_3 : wc.cell? ⟨gb182, 3, none⟩ = some (.int .i64 a0_3) := (blk_cell BK182.out 3).trans rfl
              have hcz28_4 : wc.cell? ⟨gb182, 4, none⟩ = some (.int .u32 a0_4) := (blk_cell BK182.out 4).trans rfl
              have hcz28_5 : wc.cell? ⟨gb182, 5, none⟩ = some (.slice A0_5 l0_5.length c0_5) := (blk_cell BK182.out 5).trans rfl
              have hcz28_6 : wc.cell? ⟨gb182, 6, none⟩ = some (.slice A0_6 l0_6.length c0_6) := (blk_cell BK182.out 6).trans rfl
              have hfz28_0 := blk_frozen BK182.out 0
              have hfz28_1 := blk_frozen BK182.out 1
              have hfz28_2 := blk_frozen BK182.out 2
              have hfz28_3 := blk_frozen BK182.out 3
              have hfz28_4 := blk_frozen BK182.out 4
              have hfz28_5 := blk_frozen BK182.out 5
              have hfz28_6 := blk_frozen BK182.out 6
              go_wp2
              go_meet
              case rel => exact ⟨_, (true), (by first | rfl | (simp; done) | (simp [*]; done)), H', ⟨by have := HJ1.out; first | omega | exact Nat.le_refl _⟩, ⟨by (with_reducible repeat (first | refine blk_drewN ?_ _ | refine blk_drew ?_ | refine blk_alloc ?_ _)); exact BK182.out⟩, ⟨by repeat (first | (with_reducible first | exact HB.out | apply below_alloc | apply pw_below_drewN | apply below_drew1 | refine below_set ?_ GE182.out) | exact HB.out)⟩⟩
          · rw [if_neg c17] at H
            have c17b0 : decide (0 < (l0_5.length : Int)) = false := decide_eq_false c17
            have c17b1 : decide (0 < l0_5.length) = false := decide_eq_false (by omega)
            clear c17
            (first | rw [c17b0] | (simp only [i64_w, i32_w]; rw [c17b0]) | skip)
            by_cases c29 : (l0_5.length : Int) > 4
            · rw [if_pos c29] at H
              have c29b0 : decide (4 < (l0_5.length : Int)) = true := decide_eq_true c29
              have c29b1 : decide (4 < l0_5.length) = true := decide_eq_true (by omega)
              clear c29
              have H' := Aside0.mk H
              clear H
              have hcz30_0 : wc.cell? ⟨gb182, 0, none⟩ = some (.int .i64 a0_0) := (blk_cell BK182.out 0).trans rfl
              have hcz30_1 : wc.cell? ⟨gb182, 1, none⟩ = some (.int .u64 a0_1) := (blk_cell BK182.out 1).trans rfl
              have hcz30_2 : wc.cell? ⟨gb182, 2, none⟩ = some (.int .i64 a0_2) := (blk_cell BK182.out 2).trans rfl
              have hcz30_3 : wc.cell? ⟨gb182, 3, none⟩ = some (.int .i64 a0_3) := (blk_cell BK182.out 3).trans rfl
              have hcz30_4 : wc.cell? ⟨gb182, 4, none⟩ = some (.int .u32 a0_4) := (blk_cell BK182.out 4).trans rfl
              have hcz30_5 : wc.cell? ⟨gb182, 5, none⟩ = some (.slice A0_5 l0_5.length c0_5) := (blk_cell BK182.out 5).trans rfl
              have hcz30_6 : wc.cell? ⟨gb182, 6, none⟩ = some (.slice A0_6 l0_6.length c0_6) := (blk_cell BK182.out 6).trans rfl
              have hfz30_0 := blk_frozen BK182.out 0
              have hfz30_1 := blk_frozen BK182.out 1
              have hfz30_2 := blk_frozen BK182.out 2
              have hfz30_3 := blk_frozen BK182.out 3
              have hfz30_4 := blk_frozen BK182.out 4
              have hfz30_5 := blk_frozen BK182.out 5
              have hfz30_6 := blk_frozen BK182.out 6
              go_wp2
              go_meet
              case rel => exact ⟨_, (true), (by first | rfl | (simp; done) | (simp [*]; done)), H', ⟨by have := HJ1.out; first | omega | exact Nat.le_refl _⟩, ⟨by (with_reducible repeat (first | refine blk_drewN ?_ _ | refine blk_drew ?_ | refine blk_alloc ?_ _)); exact BK182.out⟩, ⟨by repeat (first | (with_reducible first | exact HB.out | apply below_alloc | apply pw_below_drewN | apply below_drew1 | refine below_set ?_ GE182.out) | exact HB.out)⟩⟩
            · rw [if_neg c29] at H
              have c29b0 : decide (4 < (l0_5.length : Int)) = false := decide_eq_false c29
              have c29b1 : decide (4 < l0_5.length) = false := decide_eq_false (by omega)
              clear c29
              by_cases c31 : (l0_6.length : Int) > 0
              · rw [if_pos c31] at H
                have c31b0 : decide (0 < (l0_6.length : Int)) = true := decide_eq_true c31
                have c31b1 : decide (0 < l0_6.length) = true := decide_eq_true (by omega)
                clear c31
                by_cases c32 : a0_0 < 2
                · rw [if_pos c32] at H
                  have c32b0 : decide (a0_0 < 2) = true := decide_eq_true c32
                  clear c32
                  have H' := Aside0.mk H
                  clear H
                  have hcz33_0 : wc.cell? ⟨gb182, 0, none⟩ = some (.int .i64 a0_0) := (blk_cell BK182.out 0).trans rfl
                  have hcz33_1 : wc.cell? ⟨gb182, 1, none⟩ = some (.int .u64 a0_1) := (blk_cell BK182.out 1).trans rfl
                  have hcz33_2 : wc.cell? ⟨gb182, 2, none⟩ = some (.int .i64 a0_2) := (blk_cell BK182.out 2).trans rfl
                  have hcz33_3 : wc.cell? ⟨gb182, 3, none⟩ = some (.int .i64 a0_3) := (blk_cell BK182.out 3).trans rfl
                  have hcz33_4 : wc.cell? ⟨gb182, 4, none⟩ = some (.int .u32 a0_4) := (blk_cell BK182.out 4).trans rfl
                  have hcz33_5 : wc.cell? ⟨gb182, 5, none⟩ = some (.slice A0_5 l0_5.length c0_5) := (blk_cell BK182.out 5).trans rfl
                  have hcz33_6 : wc.cell? ⟨gb182, 6, none⟩ = some (.slice A0_6 l0_6.length c0_6) := (blk_cell BK182.out 6).trans rfl
                  have hfz33_0 := blk_frozen BK182.out 0
                  have hfz33_1 := blk_frozen BK182.out 1
                  have hfz33_2 := blk_frozen BK182.out 2
                  have hfz33_3 := blk_frozen BK182.out 3
                  have hfz33_4 := blk_frozen BK182.out 4
                  have hfz33_5 := blk_frozen BK182.out 5
                  have hfz33_6 := blk_frozen BK182.out 6
                  go_wp2
                  go_meet
                  case rel => exact ⟨_, (true), (by first | rfl | (simp; done) | (simp [*]; done)), H', ⟨by have := HJ1.out; first | omega | exact Nat.le_refl _⟩, ⟨by (with_reducible repeat (first | refine blk_drewN ?_ _ | refine blk_drew ?_ | refine blk_alloc ?_ _)); exact BK182.out⟩, ⟨by repeat (first | (with_reducible first | exact HB.out | apply below_alloc | apply pw_below_drewN | apply below_drew1 | refine below_set ?_ GE182.out) | exact HB.out)⟩⟩
                · rw [if_neg c32] at H
                  have c32b0 : decide (a0_0 < 2) = false := decide_eq_false c32
                  clear c32
                  by_cases c34 : a0_0 > 4
                  · rw [if_pos c34] at H
                    have c34b0 : decide (4 < a0_0) = true := decide_eq_true c34
                    clear c34
                    have H' := Aside0.mk H
                    clear H
                    have hcz35_0 : wc.cell? ⟨gb182, 0, none⟩ = some (.int .i64 a0_0) := (blk_cell BK182.out 0).trans rfl
                    have hcz35_1 : wc.cell? ⟨gb182, 1, none⟩ = some (.int .u64 a0_1) := (blk_cell BK182.out 1).trans rfl
                    have hcz35_2 : wc.cell? ⟨gb182, 2, none⟩ = some (.int .i64 a0_2) := (blk_cell BK182.out 2).trans rfl
                    have hcz35_3 : wc.cell? ⟨gb182, 3, none⟩ = some (.int .i64 a0_3) := (blk_cell BK182.out 3).trans rfl
                    have hcz35_4 : wc.cell? ⟨gb182, 4, none⟩ = some (.int .u32 a0_4) := (blk_cell BK182.out 4).trans rfl
                    have hcz35_5 : wc.cell? ⟨gb182, 5, none⟩ = some (.slice A0_5 l0_5.length c0_5) := (blk_cell BK182.out 5).trans rfl
                    have hcz35_6 : wc.cell? ⟨gb182, 6, none⟩ = some (.slice A0_6 l0_6.length c0_6) := (blk_cell BK182.out 6).trans rfl
                    have hfz35_0 := blk_frozen BK182.out 0
                    have hfz35_1 := blk_frozen BK182.out 1
                    have hfz35_2 := blk_frozen BK182.out 2
                    have hfz35_3 := blk_frozen BK182.out 3
                    have hfz35_4 := blk_frozen BK182.out 4
                    have hfz35_5 := blk_frozen BK182.out 5
                    have hfz35_6 := blk_frozen BK182.out 6
                    go_wp2
                    go_meet
                    case rel => exact ⟨_, (true), (by first | rfl | (simp; done) | (simp [*]; done)), H', ⟨by have := HJ1.out; first | omega | exact Nat.le_refl _⟩, ⟨by (with_reducible repeat (first | refine blk_drewN ?_ _ | refine blk_drew ?_ | refine blk_alloc ?_ _)); exact BK182.out⟩, ⟨by repeat (first | (with_reducible first | exact HB.out | apply below_alloc | apply pw_below_drewN | apply below_drew1 | refine below_set ?_ GE182.out) | exact HB.out)⟩⟩
                  · rw [if_neg c34] at H
                    have c34b0 : decide (4 < a0_0) = false := decide_eq_false c34
                    clear c34
                    have H' := Aside0.mk H
                    clear H
                    have hcz36_0 : wc.cell? ⟨gb182, 0, none⟩ = some (.int .i64 a0_0) := (blk_cell BK182.out 0).trans rfl
                    have hcz36_1 : wc.cell? ⟨gb182, 1, none⟩ = some (.int .u64 a0_1) := (blk_cell BK182.out 1).trans rfl
                    have hcz36_2 : wc.cell? ⟨gb182, 2, none⟩ = some (.int .i64 a0_2) := (blk_cell BK182.out 2).trans rfl
                    have hcz36_3 : wc.cell? ⟨gb182, 3, none⟩ = some (.int .i64 a0_3) := (blk_cell BK182.out 3).trans rfl
                    have hcz36_4 : wc.cell? ⟨gb182, 4, none⟩ = some (.int .u32 a0_4) := (blk_cell BK182.out 4).trans rfl
                    have hcz36_5 : wc.cell? ⟨gb182, 5, none⟩ = some (.slice A0_5 l0_5.length c0_5) := (blk_cell BK182.out 5).trans rfl
                    have hcz36_6 : wc.cell? ⟨gb182, 6, none⟩ = some (.slice A0_6 l0_6.length c0_6) := (blk_cell BK182.out 6).trans rfl
                    have hfz36_0 := blk_frozen BK182.out 0
                    have hfz36_1 := blk_frozen BK182.out 1
                    have hfz36_2 := blk_frozen BK182.out 2
                    have hfz36_3 := blk_frozen BK182.out 3
                    have hfz36_4 := blk_frozen BK182.out 4
                    have hfz36_5 := blk_frozen BK182.out 5
                    have hfz36_6 := blk_frozen BK182.out 6
                    go_wp2
                    go_meet
                    case rel => exact ⟨_, (decide ((l0_6.length : Int) > 64)), (by first | rfl | (simp; done) | (simp [*]; done)), H', ⟨by have := HJ1.out; first | omega | exact Nat.le_refl _⟩, ⟨by (with_reducible repeat (first | refine blk_drewN ?_ _ | refine blk_drew ?_ | refine blk_alloc ?_ _)); exact BK182.out⟩, ⟨by repeat (first | (with_reducible first | exact HB.out | apply below_alloc | apply pw_below_drewN | apply below_drew1 | refine below_set ?_ GE182.out) | exact HB.out)⟩⟩
              · rw [if_neg c31] at H
                have c31b0 : decide (0 < (l0_6.length : Int)) = false := decide_eq_false c31
                have c31b1 : decide (0 < l0_6.length) = false := decide_eq_false (by omega)
                clear c31
                have H' := Aside0.mk H
                clear H
                have hcz37_0 : wc.cell? ⟨gb182, 0, none⟩ = some (.int .i64 a0_0) := (blk_cell BK182.out 0).trans rfl
                have hcz37_1 : wc.cell? ⟨gb182, 1, none⟩ = some (.int .u64 a0_1) := (blk_cell BK182.out 1).trans rfl
                have hcz37_2 : wc.cell? ⟨gb182, 2, none⟩ = some (.int .i64 a0_2) := (blk_cell BK182.out 2).trans rfl
                have hcz37_3 : wc.cell? ⟨gb182, 3, none⟩ = some (.int .i64 a0_3) := (blk_cell BK182.out 3).trans rfl
                have hcz37_4 : wc.cell? ⟨gb182, 4, none⟩ = some (.int .u32 a0_4) := (blk_cell BK182.out 4).trans rfl
                have hcz37_5 : wc.cell? ⟨gb182, 5, none⟩ = some (.slice A0_5 l0_5.length c0_5) := (blk_cell BK182.out 5).trans rfl
                have hcz37_6 : wc.cell? ⟨gb182, 6, none⟩ = some (.slice A0_6 l0_6.length c0_6) := (blk_cell BK182.out 6).trans rfl
                have hfz37_0 := blk_frozen BK182.out 0
                have hfz37_1 := blk_frozen BK182.out 1
                have hfz37_2 := blk_frozen BK182.out 2
                have hfz37_3 := blk_frozen BK182.out 3
                have hfz37_4 := blk_frozen BK182.out 4
                have hfz37_5 := blk_frozen BK182.out 5
                have hfz37_6 := blk_frozen BK182.out 6
                go_wp2
                go_meet
                case rel => exact ⟨_, (decide ((l0_6.length : Int) > 64)), (by first | rfl | (simp; done) | (simp [*]; done)), H', ⟨by have := HJ1.out; first | omega | exact Nat.le_refl _⟩, ⟨by (with_reducible repeat (first | refine blk_drewN ?_ _ | refine blk_drew ?_ | refine blk_alloc ?_ _)); exact BK182.out⟩, ⟨by repeat (first | (with_reducible first | exact HB.out | apply below_alloc | apply pw_below_drewN | apply below_drew1 | refine below_set ?_ GE182.out) | exact HB.out)⟩⟩
        case rest =>
          clear HC16; (try clear c1); (try clear c2); (try clear p2); (try clear c3); (try clear c4); (try clear c4b0); (try clear c6); (try clear c6b0); (try clear c8); (try clear c8b0); (try clear c10); (try clear c10b0); (try clear c12); (try clear c12b0); (try clear c15); (try clear c17); (try clear c17b0); (try clear c17b1); (try clear c18); (try clear c18b0); (try clear c18b1); (try clear c19); (try clear c19b0); (try clear c19b1); (try clear c21); (try clear c21b0); (try clear c21b1); (try clear c22); (try clear c22b0); (try clear c24); (try clear c24b0); (try clear c29); (try clear c29b0); (try clear c29b1); (try clear c31); (try clear c31b0); (try clear c31b1); (try clear c32); (try clear c32b0); (try clear c34); (try clear c34b0); (try clear hcz11_0); (try clear hcz11_1); (try clear hcz11_2); (try clear hcz11_3); (try clear hcz11_4); (try clear hcz11_5); (try clear hcz11_6); (try clear hcz13_0); (try clear hcz13_1); (try clear hcz13_2); (try clear hcz13_3); (try clear hcz13_4); (try clear hcz13_5); (try clear hcz13_6); (try clear hcz14_0); (try clear hcz14_1); (try clear hcz14_2); (try clear hcz14_3); (try clear hcz14_4); (try clear hcz14_5); (try clear hcz14_6); (try clear hcz20_0); (try clear hcz20_1); (try clear hcz20_2); (try clear hcz20_3); (try clear hcz20_4); (try clear hcz20_5); (try clear hcz20_6); (try clear hcz23_0); (try clear hcz23_1); (try clear hcz23_2); (try clear hcz23_3); (try clear hcz23_4); (try clear hcz23_5); (try clear hcz23_6); (try clear hcz25_0); (try clear hcz25_1); (try clear hcz25_2); (try clear hcz25_3); (try clear hcz25_4); (try clear hcz25_5); (try clear hcz25_6); (try clear hcz26_0); (try clear hcz26_1); (try clear hcz26_2); (try clear hcz26_3); (try clear hcz26_4); (try clear hcz26_5); (try clear hcz26_6); (try clear hcz27_0); (try clear hcz27_1); (try clear hcz27_2); (try clear hcz27_3); (try clear hcz27_4); (try clear hcz27_5); (try clear hcz27_6); (try clear hcz28_0); (try clear hcz28_1); (try clear hcz28_2); (try clear hcz28_3); (try clear hcz28_4); (try clear hcz28_5); (try clear hcz28_6); (try clear hcz30_0); (try clear hcz30_1); (try clear hcz30_2); (try clear hcz30_3); (try clear hcz30_4); (try clear hcz30_5); (try clear hcz30_6); (try clear hcz33_0); (try clear hcz33_1); (try clear hcz33_2); (try clear hcz33_3); (try clear hcz33_4); (try clear hcz33_5); (try clear hcz33_6); (try clear hcz35_0); (try clear hcz35_1); (try clear hcz35_2); (try clear hcz35_3); (try clear hcz35_4); (try clear hcz35_5); (try clear hcz35_6); (try clear hcz36_0); (try clear hcz36_1); (try clear hcz36_2); (try clear hcz36_3); (try clear hcz36_4); (try clear hcz36_5); (try clear hcz36_6); (try clear hcz37_0); (try clear hcz37_1); (try clear hcz37_2); (try clear hcz37_3); (try clear hcz37_4); (try clear hcz37_5); (try clear hcz37_6); (try clear hcz5_0); (try clear hcz5_1); (try clear hcz5_2); (try clear hcz5_3); (try clear hcz5_4); (try clear hcz5_5); (try clear hcz5_6); (try clear hcz7_0); (try clear hcz7_1); (try clear hcz7_2); (try clear hcz7_3); (try clear hcz7_4); (try clear hcz7_5); (try clear hcz7_6); (try clear hcz9_0); (try clear hcz9_1); (try clear hcz9_2); (try clear hcz9_3); (try clear hcz9_4); (try clear hcz9_5); (try clear hcz9_6); (try clear hfz11_0); (try clear hfz11_1); (try clear hfz11_2); (try clear hfz11_3); (try clear hfz11_4); (try clear hfz11_5); (try clear hfz11_6); (try clear hfz13_0); (try clear hfz13_1); (try clear hfz13_2); (try clear hfz13_3); (try clear hfz13_4); (try clear hfz13_5); (try clear hfz13_6); (try clear hfz14_0); (try clear hfz14_1); (try clear hfz14_2); (try clear hfz14_3); (try clear hfz14_4); (try clear hfz14_5); (try clear hfz14_6); (try clear hfz20_0); (try clear hfz20_1); (try clear hfz20_2); (try clear hfz20_3); (try clear hfz20_4); (try clear hfz20_5); (try clear hfz20_6); (try clear hfz23_0); (try clear hfz23_1); (try clear hfz23_2); (try clear hfz23_3); (try clear hfz23_4); (try clear hfz23_5); (try clear hfz23_6); (try clear hfz25_0); (try clear hfz25_1); (try clear hfz25_2); (try clear hfz25_3); (try clear hfz25_4); (try clear hfz25_5); (try clear hfz25_6); (try clear hfz26_0); (try clear hfz26_1); (try clear hfz26_2); (try clear hfz26_3); (try clear hfz26_4); (try clear hfz26_5); (try clear hfz26_6); (try clear hfz27_0); (try clear hfz27_1); (try clear hfz27_2); (try clear hfz27_3); (try clear hfz27_4); (try clear hfz27_5); (try clear hfz27_6); (try clear hfz28_0); (try clear hfz28_1); (try clear hfz28_2); (try clear hfz28_3); (try clear hfz28_4); (try clear hfz28_5); (try clear hfz28_6); (try clear hfz30_0); (try clear hfz30_1); (try clear hfz30_2); (try clear hfz30_3); (try clear hfz30_4); (try clear hfz30_5); (try clear hfz30_6); (try clear hfz33_0); (try clear hfz33_1); (try clear hfz33_2); (try clear hfz33_3); (try clear hfz33_4); (try clear hfz33_5); (try clear hfz33_6); (try clear hfz35_0); (try clear hfz35_1); (try clear hfz35_2); (try clear hfz35_3); (try clear hfz35_4); (try clear hfz35_5); (try clear hfz35_6); (try clear hfz36_0); (try clear hfz36_1); (try clear hfz36_2); (try clear hfz36_3); (try clear hfz36_4); (try clear hfz36_5); (try clear hfz36_6); (try clear hfz37_0); (try clear hfz37_1); (try clear hfz37_2); (try clear hfz37_3); (try clear hfz37_4); (try clear hfz37_5); (try clear hfz37_6); (try clear hfz5_0); (try clear hfz5_1); (try clear hfz5_2); (try clear hfz5_3); (try clear hfz5_4); (try clear hfz5_5); (try clear hfz5_6); (try clear hfz7_0); (try clear hfz7_1); (try clear hfz7_2); (try clear hfz7_3); (try clear hfz7_4); (try clear hfz7_5); (try clear hfz7_6); (try clear hfz9_0); (try clear hfz9_1); (try clear hfz9_2); (try clear hfz9_3); (try clear hfz9_4); (try clear hfz9_5); (try clear hfz9_6); (try clear p2)
          obtain ⟨kq, x68_15, rfl, HA, HJ15, BK182, HB⟩ := hcut
          cases kq with
          | zero => exact absurd HA.out (by simp [scullerref13_Right.j1])
          | succ kj15 =>
            have H := HA.out
            clear HA
            simp only [scullerref13_Right.j1] at H
            by_cases c38 : x68_15 = true
            · subst c38
              have H1 : (some false) = some r := by rw [if_pos rfl] at H; exact H
              clear H
              have H := H1
              clear H1
              obtain rfl := Option.some.inj H
              go_wp2
              go_ret
              exact ⟨by first | rfl | (simp [errW_none, errW_some] <;> rfl) | (simp [*, errW_none, errW_some] <;> rfl) | (refine congrArg (fun z_ : Int => Ending.returned (.bool (z_ == _))) ?_; simp only [IntKind.wrap, IntKind.bits, IntKind.signed]; simp <;> omega), by repeat (first | (with_reducible first | exact HB.out | apply below_alloc | apply pw_below_drewN | apply below_drew1 | refine below_set ?_ GE182.out) | exact HB.out)⟩
            · replace c38 := Bool.eq_false_iff.mpr c38
              subst c38
              have H1 : (scullerref13_Right.l0 kj15 0 a0_0 a0_1 a0_2 a0_3 a0_4 l0_5 l0_6) = some r := by rw [if_neg (show ¬ (false = true) by decide)] at H; exact H
              clear H
              have H := H1
              clear H1
              have H' := Aside0.mk H
              clear H
              go_wp2
              go_loopg [3] kj15 (fun kq v3 w' => ∃ (x3_3 : Int), v3 = .int .i64 x3_3 ∧ Aside0 (scullerref13_Right.l0 kq x3_3 a0_0 a0_1 a0_2 a0_3 a0_4 l0_5 l0_6 = some r) ∧ Aside0 (kq ≤ kj15) ∧ Aside0 (w'.heap[gb182]? = some (.cells #[.int .i64 a0_0, .int .u64 a0_1, .int .i64 a0_2, .int .i64 a0_3, .int .u32 a0_4, (.slice A0_5 l0_5.length c0_5), (.slice A0_6 l0_6.length c0_6)] 56 (0, 0))) ∧ Aside0 (Below w.heap.size w w'))
              case atStart => exact ⟨(0), (by first | rfl | (simp; done) | (simp [*]; done)), H', ⟨Nat.le_refl _⟩, ⟨by (with_reducible repeat (first | refine blk_drewN ?_ _ | refine blk_drew ?_ | refine blk_alloc ?_ _)); exact BK182.out⟩, ⟨by repeat (first | (with_reducible first | exact HB.out | apply below_alloc | apply pw_below_drewN | apply below_drew1 | refine below_set ?_ GE182.out) | exact HB.out)⟩⟩
              case round =>
                clear H'; (try clear c1); (try clear c2); (try clear p2); (try clear c3); (try clear c4); (try clear c4b0); (try clear c6); (try clear c6b0); (try clear c8); (try clear c8b0); (try clear c10); (try clear c10b0); (try clear c12); (try clear c12b0); (try clear c15); (try clear c17); (try clear c17b0); (try clear c17b1); (try clear c18); (try clear c18b0); (try clear c18b1); (try clear c19); (try clear c19b0); (try clear c19b1); (try clear c21); (try clear c21b0); (try clear c21b1); (try clear c22); (try clear c22b0); (try clear c24); (try clear c24b0); (try clear c29); (try clear c29b0); (try clear c29b1); (try clear c31); (try clear c31b0); (try clear c31b1); (try clear c32); (try clear c32b0); (try clear c34); (try clear c34b0); (try clear c38); (try clear hcz11_0); (try clear hcz11_1); (try clear hcz11_2); (try clear hcz11_3); (try clear hcz11_4); (try clear hcz11_5); (try clear hcz11_6); (try clear hcz13_0); (try clear hcz13_1); (try clear hcz13_2); (try clear hcz13_3); (try clear hcz13_4); (try clear hcz13_5); (try clear hcz13_6); (try clear hcz14_0); (try clear hcz14_1); (try clear hcz14_2); (try clear hcz14_3); (try clear hcz14_4); (try clear hcz14_5); (try clear hcz14_6); (try clear hcz20_0); (try clear hcz20_1); (try clear hcz20_2); (try clear hcz20_3); (try clear hcz20_4); (try clear hcz20_5); (try clear hcz20_6); (try clear hcz23_0); (try clear hcz23_1); (try clear hcz23_2); (try clear hcz23_3); (try clear hcz23_4); (try clear hcz23_5); (try clear hcz23_6); (try clear hcz25_0); (try clear hcz25_1); (try clear hcz25_2); (try clear hcz25_3); (try clear hcz25_4); (try clear hcz25_5); (try clear hcz25_6); (try clear hcz26_0); (try clear hcz26_1); (try clear hcz26_2); (try clear hcz26_3); (try clear hcz26_4); (try clear hcz26_5); (try clear hcz26_6); (try clear hcz27_0); (try clear hcz27_1); (try clear hcz27_2); (try clear hcz27_3); (try clear hcz27_4); (try clear hcz27_5); (try clear hcz27_6); (try clear hcz28_0); (try clear hcz28_1); (try clear hcz28_2); (try clear hcz28_3); (try clear hcz28_4); (try clear hcz28_5); (try clear hcz28_6); (try clear hcz30_0); (try clear hcz30_1); (try clear hcz30_2); (try clear hcz30_3); (try clear hcz30_4); (try clear hcz30_5); (try clear hcz30_6); (try clear hcz33_0); (try clear hcz33_1); (try clear hcz33_2); (try clear hcz33_3); (try clear hcz33_4); (try clear hcz33_5); (try clear hcz33_6); (try clear hcz35_0); (try clear hcz35_1); (try clear hcz35_2); (try clear hcz35_3); (try clear hcz35_4); (try clear hcz35_5); (try clear hcz35_6); (try clear hcz36_0); (try clear hcz36_1); (try clear hcz36_2); (try clear hcz36_3); (try clear hcz36_4); (try clear hcz36_5); (try clear hcz36_6); (try clear hcz37_0); (try clear hcz37_1); (try clear hcz37_2); (try clear hcz37_3); (try clear hcz37_4); (try clear hcz37_5); (try clear hcz37_6); (try clear hcz5_0); (try clear hcz5_1); (try clear hcz5_2); (try clear hcz5_3); (try clear hcz5_4); (try clear hcz5_5); (try clear hcz5_6); (try clear hcz7_0); (try clear hcz7_1); (try clear hcz7_2); (try clear hcz7_3); (try clear hcz7_4); (try clear hcz7_5); (try clear hcz7_6); (try clear hcz9_0); (try clear hcz9_1); (try clear hcz9_2); (try clear hcz9_3); (try clear hcz9_4); (try clear hcz9_5); (try clear hcz9_6); (try clear hfz11_0); (try clear hfz11_1); (try clear hfz11_2); (try clear hfz11_3); (try clear hfz11_4); (try clear hfz11_5); (try clear hfz11_6); (try clear hfz13_0); (try clear hfz13_1); (try clear hfz13_2); (try clear hfz13_3); (try clear hfz13_4); (try clear hfz13_5); (try clear hfz13_6); (try clear hfz14_0); (try clear hfz14_1); (try clear hfz14_2); (try clear hfz14_3); (try clear hfz14_4); (try clear hfz14_5); (try clear hfz14_6); (try clear hfz20_0); (try clear hfz20_1); (try clear hfz20_2); (try clear hfz20_3); (try clear hfz20_4); (try clear hfz20_5); (try clear hfz20_6); (try clear hfz23_0); (try clear hfz23_1); (try clear hfz23_2); (try clear hfz23_3); (try clear hfz23_4); (try clear hfz23_5); (try clear hfz23_6); (try clear hfz25_0); (try clear hfz25_1); (try clear hfz25_2); (try clear hfz25_3); (try clear hfz25_4); (try clear hfz25_5); (try clear hfz25_6); (try clear hfz26_0); (try clear hfz26_1); (try clear hfz26_2); (try clear hfz26_3); (try clear hfz26_4); (try clear hfz26_5); (try clear hfz26_6); (try clear hfz27_0); (try clear hfz27_1); (try clear hfz27_2); (try clear hfz27_3); (try clear hfz27_4); (try clear hfz27_5); (try clear hfz27_6); (try clear hfz28_0); (try clear hfz28_1); (try clear hfz28_2); (try clear hfz28_3); (try clear hfz28_4); (try clear hfz28_5); (try clear hfz28_6); (try clear hfz30_0); (try clear hfz30_1); (try clear hfz30_2); (try clear hfz30_3); (try clear hfz30_4); (try clear hfz30_5); (try clear hfz30_6); (try clear hfz33_0); (try clear hfz33_1); (try clear hfz33_2); (try clear hfz33_3); (try clear hfz33_4); (try clear hfz33_5); (try clear hfz33_6); (try clear hfz35_0); (try clear hfz35_1); (try clear hfz35_2); (try clear hfz35_3); (try clear hfz35_4); (try clear hfz35_5); (try clear hfz35_6); (try clear hfz36_0); (try clear hfz36_1); (try clear hfz36_2); (try clear hfz36_3); (try clear hfz36_4); (try clear hfz36_5); (try clear hfz36_6); (try clear hfz37_0); (try clear hfz37_1); (try clear hfz37_2); (try clear hfz37_3); (try clear hfz37_4); (try clear hfz37_5); (try clear hfz37_6); (try clear hfz5_0); (try clear hfz5_1); (try clear hfz5_2); (try clear hfz5_3); (try clear hfz5_4); (try clear hfz5_5); (try clear hfz5_6); (try clear hfz7_0); (try clear hfz7_1); (try clear hfz7_2); (try clear hfz7_3); (try clear hfz7_4); (try clear hfz7_5); (try clear hfz7_6); (try clear hfz9_0); (try clear hfz9_1); (try clear hfz9_2); (try clear hfz9_3); (try clear hfz9_4); (try clear hfz9_5); (try clear hfz9_6); (try clear p2)
                obtain ⟨x3_3, rfl, HA, HK3, BK182, HB⟩ := hrel
                cases gk with
                | zero => exact absurd HA.out (by simp [scullerref13_Right.l0])
                | succ k3 =>
                  have H := HA.out
                  clear HA
                  simp only [scullerref13_Right.l0] at H
                  by_cases c39 : x3_3 < (l0_5.length : Int)
                  · rw [if_pos c39] at H
                    have c39b0 : decide (x3_3 < (l0_5.length : Int)) = true := decide_eq_true c39
                    clear c39
                    by_cases c40 : 0 ≤ x3_3
                    · rw [if_pos c40] at H
                      have c40b0 : decide (0 ≤ x3_3) = true := decide_eq_true c40
                      clear c40
                      by_cases c41 : (rd l0_5 x3_3) < 0
                      · rw [if_pos c41] at H
                        have c41b0 : decide ((rd l0_5 x3_3) < 0) = true := decide_eq_true c41
                        clear c41
                        obtain rfl := Option.some.inj H
                        have hcz42_0 : wr.cell? ⟨gb182, 0, none⟩ = some (.int .i64 a0_0) := (blk_cell BK182.out 0).trans rfl
                        have hcz42_1 : wr.cell? ⟨gb182, 1, none⟩ = some (.int .u64 a0_1) := (blk_cell BK182.out 1).trans rfl
                        have hcz42_2 : wr.cell? ⟨gb182, 2, none⟩ = some (.int .i64 a0_2) := (blk_cell BK182.out 2).trans rfl
                        have hcz42_3 : wr.cell? ⟨gb182, 3, none⟩ = some (.int .i64 a0_3) := (blk_cell BK182.out 3).trans rfl
                        have hcz42_4 : wr.cell? ⟨gb182, 4, none⟩ = some (.int .u32 a0_4) := (blk_cell BK182.out 4).trans rfl
                        have hcz42_5 : wr.cell? ⟨gb182, 5, none⟩ = some (.slice A0_5 l0_5.length c0_5) := (blk_cell BK182.out 5).trans rfl
                        have hcz42_6 : wr.cell? ⟨gb182, 6, none⟩ = some (.slice A0_6 l0_6.length c0_6) := (blk_cell BK182.out 6).trans rfl
                        have hfz42_0 := blk_frozen BK182.out 0
                        have hfz42_1 := blk_frozen BK182.out 1
                        have hfz42_2 := blk_frozen BK182.out 2
                        have hfz42_3 := blk_frozen BK182.out 3
                        have hfz42_4 := blk_frozen BK182.out 4
                        have hfz42_5 := blk_frozen BK182.out 5
                        have hfz42_6 := blk_frozen BK182.out 6
                        have p183 : 0 ≤ (x3_3 : Int) := of_decide_eq_true (by first | (with_reducible assumption) | assumption)
                        have q183 : x3_3 < (l0_5.length : Int) := of_decide_eq_true (by first | (with_reducible assumption) | assumption)
                        obtain ⟨ad183, e183, hx183_0⟩ := Kd.at_int HR0_5.out x3_3 p183 q183
                        cases e183
                        replace hx183_0 := (HB.out.cell (World.block_lt_of_cell? w _ hx183_0)).trans hx183_0
                        replace p183 := eq_true p183
                        replace q183 := eq_true q183
                        go_wp2
                        go_ret
                        exact ⟨by first | rfl | (simp [errW_none, errW_some] <;> rfl) | (simp [*, errW_none, errW_some] <;> rfl) | (refine congrArg (fun z_ : Int => Ending.returned (.bool (z_ == _))) ?_; simp only [IntKind.wrap, IntKind.bits, IntKind.signed]; simp <;> omega), by repeat (first | (with_reducible first | exact HB.out | apply below_alloc | apply pw_below_drewN | apply below_drew1 | refine below_set ?_ GE182.out) | exact HB.out)⟩
                      · rw [if_neg c41] at H
                        have c41b0 : decide ((rd l0_5 x3_3) < 0) = false := decide_eq_false c41
                        clear c41
                        by_cases c43 : (rd l0_5 x3_3) > 4096
                        · rw [if_pos c43] at H
                          have c43b0 : decide (4096 < (rd l0_5 x3_3)) = true := decide_eq_true c43
                          clear c43
                          obtain rfl := Option.some.inj H
                          have hcz44_0 : wr.cell? ⟨gb182, 0, none⟩ = some (.int .i64 a0_0) := (blk_cell BK182.out 0).trans rfl
                          have hcz44_1 : wr.cell? ⟨gb182, 1, none⟩ = some (.int .u64 a0_1) := (blk_cell BK182.out 1).trans rfl
                          have hcz44_2 : wr.cell? ⟨gb182, 2, none⟩ = some (.int .i64 a0_2) := (blk_cell BK182.out 2).trans rfl
                          have hcz44_3 : wr.cell? ⟨gb182, 3, none⟩ = some (.int .i64 a0_3) := (blk_cell BK182.out 3).trans rfl
                          have hcz44_4 : wr.cell? ⟨gb182, 4, none⟩ = some (.int .u32 a0_4) := (blk_cell BK182.out 4).trans rfl
                          have hcz44_5 : wr.cell? ⟨gb182, 5, none⟩ = some (.slice A0_5 l0_5.length c0_5) := (blk_cell BK182.out 5).trans rfl
                          have hcz44_6 : wr.cell? ⟨gb182, 6, none⟩ = some (.slice A0_6 l0_6.length c0_6) := (blk_cell BK182.out 6).trans rfl
                          have hfz44_0 := blk_frozen BK182.out 0
                          have hfz44_1 := blk_frozen BK182.out 1
                          have hfz44_2 := blk_frozen BK182.out 2
                          have hfz44_3 := blk_frozen BK182.out 3
                          have hfz44_4 := blk_frozen BK182.out 4
                          have hfz44_5 := blk_frozen BK182.out 5
                          have hfz44_6 := blk_frozen BK182.out 6
                          have p183 : 0 ≤ (x3_3 : Int) := of_decide_eq_true (by first | (with_reducible assumption) | assumption)
                          have q183 : x3_3 < (l0_5.length : Int) := of_decide_eq_true (by first | (with_reducible assumption) | assumption)
                          obtain ⟨ad183, e183, hx183_0⟩ := Kd.at_int HR0_5.out x3_3 p183 q183
                          cases e183
                          replace hx183_0 := (HB.out.cell (World.block_lt_of_cell? w _ hx183_0)).trans hx183_0
                          replace p183 := eq_true p183
                          replace q183 := eq_true q183
                          have p184 : 0 ≤ (x3_3 : Int) := of_decide_eq_true (by first | (with_reducible assumption) | assumption)
                          have q184 : x3_3 < (l0_5.length : Int) := of_decide_eq_true (by first | (with_reducible assumption) | assumption)
                          obtain ⟨ad184, e184, hx184_0⟩ := Kd.at_int HR0_5.out x3_3 p184 q184
                          obtain rfl : ad183 = ad184 := (by injection e184)
                          replace hx184_0 := (HB.out.cell (World.block_lt_of_cell? w _ hx184_0)).trans hx184_0
                          replace p184 := eq_true p184
                          replace q184 := eq_true q184
                          go_wp2
                          go_ret
                          exact ⟨by first | rfl | (simp [errW_none, errW_some] <;> rfl) | (simp [*, errW_none, errW_some] <;> rfl) | (refine congrArg (fun z_ : Int => Ending.returned (.bool (z_ == _))) ?_; simp only [IntKind.wrap, IntKind.bits, IntKind.signed]; simp <;> omega), by repeat (first | (with_reducible first | exact HB.out | apply below_alloc | apply pw_below_drewN | apply below_drew1 | refine below_set ?_ GE182.out) | exact HB.out)⟩
                        · rw [if_neg c43] at H
                          have c43b0 : decide (4096 < (rd l0_5 x3_3)) = false := decide_eq_false c43
                          clear c43
                          have H' := Aside0.mk H
                          clear H
                          have hcz45_0 : wr.cell? ⟨gb182, 0, none⟩ = some (.int .i64 a0_0) := (blk_cell BK182.out 0).trans rfl
                          have hcz45_1 : wr.cell? ⟨gb182, 1, none⟩ = some (.int .u64 a0_1) := (blk_cell BK182.out 1).trans rfl
                          have hcz45_2 : wr.cell? ⟨gb182, 2, none⟩ = some (.int .i64 a0_2) := (blk_cell BK182.out 2).trans rfl
                          have hcz45_3 : wr.cell? ⟨gb182, 3, none⟩ = some (.int .i64 a0_3) := (blk_cell BK182.out 3).trans rfl
                          have hcz45_4 : wr.cell? ⟨gb182, 4, none⟩ = some (.int .u32 a0_4) := (blk_cell BK182.out 4).trans rfl
                          have hcz45_5 : wr.cell? ⟨gb182, 5, none⟩ = some (.slice A0_5 l0_5.length c0_5) := (blk_cell BK182.out 5).trans rfl
                          have hcz45_6 : wr.cell? ⟨gb182, 6, none⟩ = some (.slice A0_6 l0_6.length c0_6) := (blk_cell BK182.out 6).trans rfl
                          have hfz45_0 := blk_frozen BK182.out 0
                          have hfz45_1 := blk_frozen BK182.out 1
                          have hfz45_2 := blk_frozen BK182.out 2
                          have hfz45_3 := blk_frozen BK182.out 3
                          have hfz45_4 := blk_frozen BK182.out 4
                          have hfz45_5 := blk_frozen BK182.out 5
                          have hfz45_6 := blk_frozen BK182.out 6
                          have p183 : 0 ≤ (x3_3 : Int) := of_decide_eq_true (by first | (with_reducible assumption) | assumption)
                          have q183 : x3_3 < (l0_5.length : Int) := of_decide_eq_true (by first | (with_reducible assumption) | assumption)
                          obtain ⟨ad183, e183, hx183_0⟩ := Kd.at_int HR0_5.out x3_3 p183 q183
                          cases e183
                          replace hx183_0 := (HB.out.cell (World.block_lt_of_cell? w _ hx183_0)).trans hx183_0
                          replace p183 := eq_true p183
                          replace q183 := eq_true q183
                          have p184 : 0 ≤ (x3_3 : Int) := of_decide_eq_true (by first | (with_reducible assumption) | assumption)
                          have q184 : x3_3 < (l0_5.length : Int) := of_decide_eq_true (by first | (with_reducible assumption) | assumption)
                          obtain ⟨ad184, e184, hx184_0⟩ := Kd.at_int HR0_5.out x3_3 p184 q184
                          obtain rfl : ad183 = ad184 := (by injection e184)
                          replace hx184_0 := (HB.out.cell (World.block_lt_of_cell? w _ hx184_0)).trans hx184_0
                          replace p184 := eq_true p184
                          replace q184 := eq_true q184
                          go_wp2
                          go_roundg k3
                          case measure => have := HJ1.out; have := HJ15.out; have := HK3.out; omega
                          case rel => exact ⟨(wrap64 (x3_3 + 1)), (by first | rfl | (simp; done) | (simp [*]; done)), H', ⟨by have := HJ1.out; have := HJ15.out; have := HK3.out; omega⟩, ⟨by (with_reducible repeat (first | refine blk_drewN ?_ _ | refine blk_drew ?_ | refine blk_alloc ?_ _)); exact BK182.out⟩, ⟨by repeat (first | (with_reducible first | exact HB.out | apply below_alloc | apply pw_below_drewN | apply below_drew1 | refine below_set ?_ GE182.out) | exact HB.out)⟩⟩
                    · rw [if_neg c40] at H
                      exact absurd H (by simp)
                  · rw [if_neg c39] at H
                    have c39b0 : decide (x3_3 < (l0_5.length : Int)) = false := decide_eq_false c39
                    clear c39
                    obtain rfl := Option.some.inj H
                    have hcz46_0 : wr.cell? ⟨gb182, 0, none⟩ = some (.int .i64 a0_0) := (blk_cell BK182.out 0).trans rfl
                    have hcz46_1 : wr.cell? ⟨gb182, 1, none⟩ = some (.int .u64 a0_1) := (blk_cell BK182.out 1).trans rfl
                    have hcz46_2 : wr.cell? ⟨gb182, 2, none⟩ = some (.int .i64 a0_2) := (blk_cell BK182.out 2).trans rfl
                    have hcz46_3 : wr.cell? ⟨gb182, 3, none⟩ = some (.int .i64 a0_3) := (blk_cell BK182.out 3).trans rfl
                    have hcz46_4 : wr.cell? ⟨gb182, 4, none⟩ = some (.int .u32 a0_4) := (blk_cell BK182.out 4).trans rfl
                    have hcz46_5 : wr.cell? ⟨gb182, 5, none⟩ = some (.slice A0_5 l0_5.length c0_5) := (blk_cell BK182.out 5).trans rfl
                    have hcz46_6 : wr.cell? ⟨gb182, 6, none⟩ = some (.slice A0_6 l0_6.length c0_6) := (blk_cell BK182.out 6).trans rfl
                    have hfz46_0 := blk_frozen BK182.out 0
                    have hfz46_1 := blk_frozen BK182.out 1
                    have hfz46_2 := blk_frozen BK182.out 2
                    have hfz46_3 := blk_frozen BK182.out 3
                    have hfz46_4 := blk_frozen BK182.out 4
                    have hfz46_5 := blk_frozen BK182.out 5
                    have hfz46_6 := blk_frozen BK182.out 6
                    go_wp2
                    go_ret
                    exact ⟨by first | rfl | (simp [errW_none, errW_some] <;> rfl) | (simp [*, errW_none, errW_some] <;> rfl) | (refine congrArg (fun z_ : Int => Ending.returned (.bool (z_ == _))) ?_; simp only [IntKind.wrap, IntKind.bits, IntKind.signed]; simp <;> omega), by repeat (first | (with_reducible first | exact HB.out | apply below_alloc | apply pw_below_drewN | apply below_drew1 | refine below_set ?_ GE182.out) | exact HB.out)⟩
end Go.Proofs.Ytliohoalackhiaa.I
