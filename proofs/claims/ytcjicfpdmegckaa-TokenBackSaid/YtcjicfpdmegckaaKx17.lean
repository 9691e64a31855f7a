/- Written by a program of this repo (wip/tools/gprint.py): what functions of the Go program compute, the proofs that they do, and the rows of statements. Conditions: those in each theorem. -/
import Derived.Test.YtcjicfpdmegckaaKx0
import Derived.Test.YtcjicfpdmegckaaWFar
namespace Go.Proofs.Ytcjicfpdmegckaa.K
open Go.RowKit Go.Proofs.YtcjicfpdmegckaaW.PrintWords Go.Proofs.YtcjicfpdmegckaaW.PrintLast Go.Proofs.YtcjicfpdmegckaaW.PrintMore
attribute [local go_sem] max2_int min2_int max_two min_two max_three min_three max_four min_four   -- for this text's walks alone
set_option linter.unusedVariables false
set_option linter.unusedSimpArgs false

/-! ### scullerref07_SameInts: function 83 -/
def scullerref07_SameInts.l0 : Nat → List Int → List Int → Int → Option (Bool)
  | 0, _, _, _ => none
  | k + 1, x0, x1, x5 => if x5 < (x0.length : Int) then (if 0 ≤ x5 then (if x5 < (x1.length : Int) then (if (rd x0 x5) = (rd x1 x5) then (scullerref07_SameInts.l0 k x0 x1 (wrap64 (x5 + 1))) else (some false)) else (none)) else (none)) else (some true)
def scullerref07_SameInts.f (k : Nat) (l0 : List Int) (l1 : List Int) : Option (Bool) := if (l0.length : Int) = (l1.length : Int) then (scullerref07_SameInts.l0 k l0 l1 0) else (some false)
set_option maxHeartbeats 8000000 in
set_option maxRecDepth 100000 in
theorem scullerref07_SameInts.calls (k : Nat) (A0 : Option Addr) (c0 : Nat) (l0 : List Int) (A1 : Option Addr) (c1 : Nat) (l1 : List Int) (r : Bool) (w : World) (hr0 : Kd.C (Kd.int .i64) w A0 l0.length l0) (hc0 : l0.length ≤ c0) (hr1 : Kd.C (Kd.int .i64) w A1 l1.length l1) (hc1 : l1.length ≤ c1) (h : scullerref07_SameInts.f k l0 l1 = some r) :
    Calls Try.prog 83 #[.slice A0 l0.length c0, .slice A1 l1.length c1] w fun e w' => e = .returned (.bool r) ∧ Drawn0 w w' := by
  have HR0 := Aside0.mk hr0
  have HC0 := Aside0.mk hc0
  clear hr0 hc0
  have HR1 := Aside0.mk hr1
  have HC1 := Aside0.mk hc1
  clear hr1 hc1
  have H : (if (l0.length : Int) = (l1.length : Int) then (scullerref07_SameInts.l0 k l0 l1 0) else (some false)) = some r := h
  clear h
  by_cases c3 : (l0.length : Int) = (l1.length : Int)
  · rw [if_pos c3] at H
    have c3b0 : ((l0.length : Int) == (l1.length : Int)) = true := beq_iff_eq.mpr c3
    have c3b1 : ((l0.length : Int) != (l1.length : Int)) = false := bne_eq_false_iff_eq.mpr c3
    have c3b2 : (l0.length == l1.length) = true := by first | simpa using c3 | (simp at c3 ⊢; omega)
    clear c3
    have H' := Aside0.mk H
    clear H
    go_enter Try.func83, Try.ntmps83
    go_wp2
    repeat (go_quiet (fail); try go_wp2)
    go_loopg [5] k (fun kq v5 w' => ∃ (x5_1 : Int), v5 = .int .i64 x5_1 ∧ Aside0 (scullerref07_SameInts.l0 kq l0 l1 x5_1 = some r) ∧ Aside0 (kq ≤ k) ∧ Drawn0 w w')
    case atStart => exact ⟨(0), (by first | rfl | (simp; done) | (simp [*]; done)), H', ⟨Nat.le_refl _⟩, by repeat (first | exact Drawn0.refl _ | apply Drawn0.step)⟩
    case round =>
      clear H'
      try clear c1
      try clear p2
      try clear c3
      try clear c3b0
      try clear c3b1
      try clear c3b2
      obtain ⟨x5_1, rfl, HA, HK1, ⟨m1, rfl⟩⟩ := hrel
      cases gk with
      | zero => exact absurd HA.out (by simp [scullerref07_SameInts.l0])
      | succ k1 =>
        have H := HA.out
        clear HA
        simp only [scullerref07_SameInts.l0] at H
        by_cases c4 : x5_1 < (l0.length : Int)
        · rw [if_pos c4] at H
          have c4b0 : decide (x5_1 < (l0.length : Int)) = true := decide_eq_true c4
          clear c4
          by_cases c5 : 0 ≤ x5_1
          · rw [if_pos c5] at H
            have c5b0 : decide (0 ≤ x5_1) = true := decide_eq_true c5
            clear c5
            by_cases c6 : x5_1 < (l1.length : Int)
            · rw [if_pos c6] at H
              have c6b0 : decide (x5_1 < (l1.length : Int)) = true := decide_eq_true c6
              clear c6
              by_cases c7 : (rd l0 x5_1) = (rd l1 x5_1)
              · rw [if_pos c7] at H
                have c7b0 : ((rd l0 x5_1) == (rd l1 x5_1)) = true := beq_iff_eq.mpr c7
                have c7b1 : ((rd l0 x5_1) != (rd l1 x5_1)) = false := bne_eq_false_iff_eq.mpr c7
                clear c7
                have H' := Aside0.mk H
                clear H
                have p321 : 0 ≤ (x5_1 : Int) := of_decide_eq_true (by first | (with_reducible assumption) | assumption)
                have q321 : x5_1 < (l0.length : Int) := of_decide_eq_true (by first | (with_reducible assumption) | assumption)
                obtain ⟨ad321, e321, hx321_0⟩ := Kd.at_int HR0.out x5_1 p321 q321
                cases e321
                replace p321 := eq_true p321
                replace q321 := eq_true q321
                have p322 : 0 ≤ (x5_1 : Int) := of_decide_eq_true (by first | (with_reducible assumption) | assumption)
                have q322 : x5_1 < (l1.length : Int) := of_decide_eq_true (by first | (with_reducible assumption) | assumption)
                obtain ⟨ad322, e322, hx322_0⟩ := Kd.at_int HR1.out x5_1 p322 q322
                cases e322
                replace p322 := eq_true p322
                replace q322 := eq_true q322
                go_wp2
                repeat (go_quiet (fail); try go_wp2)
                go_roundg k1
                case measure => have := HK1.out; omega
                case rel => exact ⟨(wrap64 (x5_1 + 1)), (by first | rfl | (simp; done) | (simp [*]; done)), H', ⟨by have := HK1.out; omega⟩, by repeat (first | exact Drawn0.refl _ | apply Drawn0.step)⟩
              · rw [if_neg c7] at H
                have c7b0 : ((rd l0 x5_1) == (rd l1 x5_1)) = false := beq_eq_false_iff_ne.mpr c7
                have c7b1 : ((rd l0 x5_1) != (rd l1 x5_1)) = true := bne_iff_ne.mpr c7
                obtain rfl := Option.some.inj H
                have p321 : 0 ≤ (x5_1 : Int) := of_decide_eq_true (by first | (with_reducible assumption) | assumption)
                have q321 : x5_1 < (l0.length : Int) := of_decide_eq_true (by first | (with_reducible assumption) | assumption)
                obtain ⟨ad321, e321, hx321_0⟩ := Kd.at_int HR0.out x5_1 p321 q321
                cases e321
                replace p321 := eq_true p321
                replace q321 := eq_true q321
                have p322 : 0 ≤ (x5_1 : Int) := of_decide_eq_true (by first | (with_reducible assumption) | assumption)
                have q322 : x5_1 < (l1.length : Int) := of_decide_eq_true (by first | (with_reducible assumption) | assumption)
                obtain ⟨ad322, e322, hx322_0⟩ := Kd.at_int HR1.out x5_1 p322 q322
                cases e322
                replace p322 := eq_true p322
                replace q322 := eq_true q322
                go_wp2
                repeat (go_quiet (fail); try go_wp2)
                go_ret
                exact ⟨by first | rfl | (simp; done) | (simp [*]; done), by repeat (first | exact Drawn0.refl _ | apply Drawn0.step)⟩
            · rw [if_neg c6] at H
              exact absurd H (by simp)
          · rw [if_neg c5] at H
            exact absurd H (by simp)
        · rw [if_neg c4] at H
          have c4b0 : decide (x5_1 < (l0.length : Int)) = false := decide_eq_false c4
          clear c4
          obtain rfl := Option.some.inj H
          go_wp2
          repeat (go_quiet (fail); try go_wp2)
          go_ret
          exact ⟨by first | rfl | (simp; done) | (simp [*]; done), by repeat (first | exact Drawn0.refl _ | apply Drawn0.step)⟩
  · rw [if_neg c3] at H
    have c3b0 : ((l0.length : Int) == (l1.length : Int)) = false := beq_eq_false_iff_ne.mpr c3
    have c3b1 : ((l0.length : Int) != (l1.length : Int)) = true := bne_iff_ne.mpr c3
    have c3b2 : (l0.length == l1.length) = false := by first | simpa using c3 | (simp at c3 ⊢; omega)
    obtain rfl := Option.some.inj H
    go_enter Try.func83, Try.ntmps83
    go_wp2
    repeat (go_quiet (fail); try go_wp2)
    go_ret
    exact ⟨by first | rfl | (simp; done) | (simp [*]; done), by repeat (first | exact Drawn0.refl _ | apply Drawn0.step)⟩

/-! ### scullerref12_Same: function 174 -/
def scullerref12_Same.f (k : Nat) (a0_0 : Int) (l0_1 : List Int) (a0_2 : Int) (a1_0 : Int) (l1_1 : List Int) (a1_2 : Int) : Option (Bool) := if a0_0 = a1_0 then (if a0_2 = a1_2 then ((scullerref07_SameInts.f k l0_1 l1_1).bind fun t325 => (some t325)) else (some false)) else (some false)
set_option maxHeartbeats 8000000 in
set_option maxRecDepth 100000 in
theorem scullerref12_Same.calls (k : Nat) (a0_0 : Int) (A0_1 : Option Addr) (c0_1 : Nat) (l0_1 : List Int) (a0_2 : Int) (a1_0 : Int) (A1_1 : Option Addr) (c1_1 : Nat) (l1_1 : List Int) (a1_2 : Int) (r : Bool) (w : World) (hr0_1 : Kd.C (Kd.int .i64) w A0_1 l0_1.length l0_1) (hc0_1 : l0_1.length ≤ c0_1) (hr1_1 : Kd.C (Kd.int .i64) w A1_1 l1_1.length l1_1) (hc1_1 : l1_1.length ≤ c1_1) (h : scullerref12_Same.f k a0_0 l0_1 a0_2 a1_0 l1_1 a1_2 = some r) :
    Calls Try.prog 174 #[.agg #[.int .u64 a0_0, .slice A0_1 l0_1.length c0_1, .int .u32 a0_2], .agg #[.int .u64 a1_0, .slice A1_1 l1_1.length c1_1, .int .u32 a1_2]] w fun e w' => e = .returned (.bool r) ∧ Below w.heap.size w w' := by
  have hu84 := Try.underlying84
  have HR0_1 := Aside0.mk hr0_1
  have HC0_1 := Aside0.mk hc0_1
  clear hr0_1 hc0_1
  have HR1_1 := Aside0.mk hr1_1
  have HC1_1 := Aside0.mk hc1_1
  clear hr1_1 hc1_1
  have HB := Aside0.mk (Below.refl w.heap.size w)
  have H : (if a0_0 = a1_0 then (if a0_2 = a1_2 then ((scullerref07_SameInts.f k l0_1 l1_1).bind fun t325 => (some t325)) else (some false)) else (some false)) = some r := h
  clear h
  by_cases c3 : a0_0 = a1_0
  · rw [if_pos c3] at H
    have c3b0 : (a0_0 == a1_0) = true := beq_iff_eq.mpr c3
    have c3b1 : (a0_0 != a1_0) = false := bne_eq_false_iff_eq.mpr c3
    clear c3
    by_cases c4 : a0_2 = a1_2
    · rw [if_pos c4] at H
      have c4b0 : (a0_2 == a1_2) = true := beq_iff_eq.mpr c4
      have c4b1 : (a0_2 != a1_2) = false := bne_eq_false_iff_eq.mpr c4
      clear c4
      replace H := Option.bind_eq_some_iff.mp H
      obtain ⟨t325, A50, H⟩ := H
      replace H : (some t325) = some r := H
      have A5 := Aside0.mk A50
      clear A50
      obtain rfl := Option.some.inj H
      go_enter Try.func174, Try.ntmps174
      go_wp2_with (first | ((with_reducible refine gate_dst (N := 2) rfl ?_); refine box_event ?hg (N := 2) ?hd (cs := #[.int .u64 a0_0, .slice A0_1 l0_1.length c0_1, .int .u32 a0_2]) (t := 84) ?hr ?_; (case hd => rfl); (case hg => rfl); (case hr => first | (go_simp; done) | (go_simp; rfl)); intro gb323 hg w6 hbox hb; have n0_ := Aside0.mk (below_step (Far.Bb HB.out) hb); have n1_ := Aside0.mk (hbox); have n2_ := Aside0.mk ((by rw [hg]; exact (below_size (Far.Bb HB.out)) : w.heap.size ≤ gb323)); have n3_ := Aside0.mk ((by rw [hg]; exact (below_size (Far.Bb HB.out)) : w.heap.size ≤ gb323)); clear HB; have HB := n0_; have BK323 := n1_; have GW323 := n2_; have GE323 := n3_; clear n0_ n1_ n2_ n3_; clear hb hbox hg) | ((with_reducible refine gate_dst (N := 3) rfl ?_); refine box_event ?hg (N := 3) ?hd (cs := #[.int .u64 a1_0, .slice A1_1 l1_1.length c1_1, .int .u32 a1_2]) (t := 84) ?hr ?_; (case hd => rfl); (case hg => rfl); (case hr => first | (go_simp; done) | (go_simp; rfl)); intro gb324 hg w7 hbox hb; have n0_ := Aside0.mk (blk_below (g := gb323) (o := .cells #[.int .u64 a0_0, .slice A0_1 l0_1.length c0_1, .int .u32 a0_2] 84 (0, 0)) (Far.Ba BK323.out) hb); have n1_ := Aside0.mk (below_step (by repeat (first | (with_reducible first | exact HB.out | apply below_alloc | apply pw_below_drewN | apply below_drew1 | refine below_set ?_ GE323.out) | exact HB.out)) hb); have n2_ := Aside0.mk (hbox); have n3_ := Aside0.mk ((by rw [hg]; exact (below_size (by repeat (first | (with_reducible first | exact HB.out | apply below_alloc | apply pw_below_drewN | apply below_drew1 | refine below_set ?_ GE323.out) | exact HB.out))) : w.heap.size ≤ gb324)); have n4_ := Aside0.mk ((by rw [hg]; exact (below_size (by repeat (first | (with_reducible first | exact HB.out | apply below_alloc | apply pw_below_drewN | apply below_drew1 | refine below_set ?_ GE323.out) | exact HB.out))) : w.heap.size ≤ gb324)); have n5_ := Aside0.mk ((by rw [hg]; exact Nat.ne_of_lt (blk_lt (g := gb323) (o := .cells #[.int .u64 a0_0, .slice A0_1 l0_1.length c0_1, .int .u32 a0_2] 84 (0, 0)) (Far.Ba BK323.out)) : gb323 ≠ gb324)); have n6_ := Aside0.mk ((by rw [hg]; exact Nat.ne_of_gt (blk_lt (g := gb323) (o := .cells #[.int .u64 a0_0, .slice A0_1 l0_1.length c0_1, .int .u32 a0_2] 84 (0, 0)) (Far.Ba BK323.out)) : gb324 ≠ gb323)); clear BK323 HB; have BK323 := n0_; have HB := n1_; have BK324 := n2_; have GW324 := n3_; have GE324 := n4_; have NB323_324 := n5_; have NB324_323 := n6_; clear n0_ n1_ n2_ n3_ n4_ n5_ n6_; clear hb hbox hg; have hnb8 := NB323_324.out; have hnc8 := NB324_323.out; have hcz9_0 : w7.cell? ⟨gb323, 0, none⟩ = some (.int .u64 a0_0) := (blk_cell BK323.out 0).trans rfl; have hcz9_1 : w7.cell? ⟨gb323, 1, none⟩ = some (.slice A0_1 l0_1.length c0_1) := (blk_cell BK323.out 1).trans rfl; have hcz9_2 : w7.cell? ⟨gb323, 2, none⟩ = some (.int .u32 a0_2) := (blk_cell BK323.out 2).trans rfl; have hfz9_0 := blk_frozen BK323.out 0; have hfz9_1 := blk_frozen BK323.out 1; have hfz9_2 := blk_frozen BK323.out 2; have hcz10_0 : w7.cell? ⟨gb324, 0, none⟩ = some (.int .u64 a1_0) := (blk_cell BK324.out 0).trans rfl; have hcz10_1 : w7.cell? ⟨gb324, 1, none⟩ = some (.slice A1_1 l1_1.length c1_1) := (blk_cell BK324.out 1).trans rfl; have hcz10_2 : w7.cell? ⟨gb324, 2, none⟩ = some (.int .u32 a1_2) := (blk_cell BK324.out 2).trans rfl; have hfz10_0 := blk_frozen BK324.out 0; have hfz10_1 := blk_frozen BK324.out 1; have hfz10_2 := blk_frozen BK324.out 2) | (go_at_call 83; (with_reducible refine (scullerref07_SameInts.calls k _ _ l0_1 _ _ l1_1 t325 _ ?side1 ?side2 ?side3 ?side4 A5.out).mono ?_); (case side1 => repeat (first | exact (Kd.C_below HR0_1.out HB.out) | (with_reducible refine Kd.C_alloc ?_ _) | (with_reducible refine Kd.C_drewN ?_ _) | (with_reducible refine Kd.C_drew ?_))); (case side2 => exact HC0_1.out); (case side3 => repeat (first | exact (Kd.C_below HR1_1.out HB.out) | (with_reducible refine Kd.C_alloc ?_ _) | (with_reducible refine Kd.C_drewN ?_ _) | (with_reducible refine Kd.C_drew ?_))); (case side4 => exact HC1_1.out); rintro e w' ⟨rfl, ⟨nd, rfl⟩⟩))
      go_ret
      exact ⟨by first | rfl | (simp [errW_none, errW_some] <;> rfl) | (simp [*, errW_none, errW_some] <;> rfl) | (refine congrArg (fun z_ : Int => Ending.returned (.bool (z_ == _))) ?_; simp only [IntKind.wrap, IntKind.bits, IntKind.signed]; simp <;> omega), by repeat (first | (with_reducible first | exact HB.out | apply below_alloc | apply pw_below_drewN | apply below_drew1 | refine below_set ?_ GE323.out | refine below_set ?_ GE324.out) | exact HB.out)⟩
    · rw [if_neg c4] at H
      have c4b0 : (a0_2 == a1_2) = false := beq_eq_false_iff_ne.mpr c4
      have c4b1 : (a0_2 != a1_2) = true := bne_iff_ne.mpr c4
      obtain rfl := Option.some.inj H
      go_enter Try.func174, Try.ntmps174
      go_wp2_with (first | ((with_reducible refine gate_dst (N := 2) rfl ?_); refine box_event ?hg (N := 2) ?hd (cs := #[.int .u64 a0_0, .slice A0_1 l0_1.length c0_1, .int .u32 a0_2]) (t := 84) ?hr ?_; (case hd => rfl); (case hg => rfl); (case hr => first | (go_simp; done) | (go_simp; rfl)); intro gb323 hg w11 hbox hb; have n0_ := Aside0.mk (below_step (Far.Bb HB.out) hb); have n1_ := Aside0.mk (hbox); have n2_ := Aside0.mk ((by rw [hg]; exact (below_size (Far.Bb HB.out)) : w.heap.size ≤ gb323)); have n3_ := Aside0.mk ((by rw [hg]; exact (below_size (Far.Bb HB.out)) : w.heap.size ≤ gb323)); clear HB; have HB := n0_; have BK323 := n1_; have GW323 := n2_; have GE323 := n3_; clear n0_ n1_ n2_ n3_; clear hb hbox hg) | ((with_reducible refine gate_dst (N := 3) rfl ?_); refine box_event ?hg (N := 3) ?hd (cs := #[.int .u64 a1_0, .slice A1_1 l1_1.length c1_1, .int .u32 a1_2]) (t := 84) ?hr ?_; (case hd => rfl); (case hg => rfl); (case hr => first | (go_simp; done) | (go_simp; rfl)); intro gb324 hg w12 hbox hb; have n0_ := Aside0.mk (blk_below (g := gb323) (o := .cells #[.int .u64 a0_0, .slice A0_1 l0_1.length c0_1, .int .u32 a0_2] 84 (0, 0)) (Far.Ba BK323.out) hb); have n1_ := Aside0.mk (below_step (by repeat (first | (with_reducible first | exact HB.out | apply below_alloc | apply pw_below_drewN | apply below_drew1 | refine below_set ?_ GE323.out) | exact HB.out)) hb); have n2_ := Aside0.mk (hbox); have n3_ := Aside0.mk ((by rw [hg]; exact (below_size (by repeat (first | (with_reducible first | exact HB.out | apply below_alloc | apply pw_below_drewN | apply below_drew1 | refine below_set ?_ GE323.out) | exact HB.out))) : w.heap.size ≤ gb324)); have n4_ := Aside0.mk ((by rw [hg]; exact (below_size (by repeat (first | (with_reducible first | exact HB.out | apply below_alloc | apply pw_below_drewN | apply below_drew1 | refine below_set ?_ GE323.out) | exact HB.out))) : w.heap.size ≤ gb324)); have n5_ := Aside0.mk ((by rw [hg]; exact Nat.ne_of_lt (blk_lt (g := gb323) (o := .cells #[.int .u64 a0_0, .slice A0_1 l0_1.length c0_1, .int .u32 a0_2] 84 (0, 0)) (Far.Ba BK323.out)) : gb323 ≠ gb324)); have n6_ := Aside0.mk ((by rw [hg]; exact Nat.ne_of_gt (blk_lt (g := gb323) (o := .cells #[.int .u64 a0_0, .slice A0_1 l0_1.length c0_1, .int .u32 a0_2] 84 (0, 0)) (Far.Ba BK323.out)) : gb324 ≠ gb323)); clear BK323 HB; have BK323 := n0_; have HB := n1_; have BK324 := n2_; have GW324 := n3_; have GE324 := n4_; have NB323_324 := n5_; have NB324_323 := n6_; clear n0_ n1_ n2_ n3_ n4_ n5_ n6_; clear hb hbox hg; have hnb13 := NB323_324.out; have hnc13 := NB324_323.out; have hcz14_0 : w12.cell? ⟨gb323, 0, none⟩ = some (.int .u64 a0_0) := (blk_cell BK323.out 0).trans rfl; have hcz14_1 : w12.cell? ⟨gb323, 1, none⟩ = some (.slice A0_1 l0_1.length c0_1) := (blk_cell BK323.out 1).trans rfl; have hcz14_2 : w12.cell? ⟨gb323, 2, none⟩ = some (.int .u32 a0_2) := (blk_cell BK323.out 2).trans rfl; have hfz14_0 := blk_frozen BK323.out 0; have hfz14_1 := blk_frozen BK323.out 1; have hfz14_2 := blk_frozen BK323.out 2; have hcz15_0 : w12.cell? ⟨gb324, 0, none⟩ = some (.int .u64 a1_0) := (blk_cell BK324.out 0).trans rfl; have hcz15_1 : w12.cell? ⟨gb324, 1, none⟩ = some (.slice A1_1 l1_1.length c1_1) := (blk_cell BK324.out 1).trans rfl; have hcz15_2 : w12.cell? ⟨gb324, 2, none⟩ = some (.int .u32 a1_2) := (blk_cell BK324.out 2).trans rfl; have hfz15_0 := blk_frozen BK324.out 0; have hfz15_1 := blk_frozen BK324.out 1; have hfz15_2 := blk_frozen BK324.out 2))
      go_ret
      exact ⟨by first | rfl | (simp [errW_none, errW_some] <;> rfl) | (simp [*, errW_none, errW_some] <;> rfl) | (refine congrArg (fun z_ : Int => Ending.returned (.bool (z_ == _))) ?_; simp only [IntKind.wrap, IntKind.bits, IntKind.signed]; simp <;> omega), by repeat (first | (with_reducible first | exact HB.out | apply below_alloc | apply pw_below_drewN | apply below_drew1 | refine below_set ?_ GE323.out | refine below_set ?_ GE324.out) | exact HB.out)⟩
  · rw [if_neg c3] at H
    have c3b0 : (a0_0 == a1_0) = false := beq_eq_false_iff_ne.mpr c3
    have c3b1 : (a0_0 != a1_0) = true := bne_iff_ne.mpr c3
    obtain rfl := Option.some.inj H
    go_enter Try.func174, Try.ntmps174
    go_wp2_with (first | ((with_reducible refine gate_dst (N := 2) rfl ?_); refine box_event ?hg (N := 2) ?hd (cs := #[.int .u64 a0_0, .slice A0_1 l0_1.length c0_1, .int .u32 a0_2]) (t := 84) ?hr ?_; (case hd => rfl); (case hg => rfl); (case hr => first | (go_simp; done) | (go_simp; rfl)); intro gb323 hg w16 hbox hb; have n0_ := Aside0.mk (below_step (Far.Bb HB.out) hb); have n1_ := Aside0.mk (hbox); have n2_ := Aside0.mk ((by rw [hg]; exact (below_size (Far.Bb HB.out)) : w.heap.size ≤ gb323)); have n3_ := Aside0.mk ((by rw [hg]; exact (below_size (Far.Bb HB.out)) : w.heap.size ≤ gb323)); clear HB; have HB := n0_; have BK323 := n1_; have GW323 := n2_; have GE323 := n3_; clear n0_ n1_ n2_ n3_; clear hb hbox hg) | ((with_reducible refine gate_dst (N := 3) rfl ?_); refine box_event ?hg (N := 3) ?hd (cs := #[.int .u64 a1_0, .slice A1_1 l1_1.length c1_1, .int .u32 a1_2]) (t := 84) ?hr ?_; (case hd => rfl); (case hg => rfl); (case hr => first | (go_simp; done) | (go_simp; rfl)); intro gb324 hg w17 hbox hb; have n0_ := Aside0.mk (blk_below (g := gb323) (o := .cells #[.int .u64 a0_0, .slice A0_1 l0_1.length c0_1, .int .u32 a0_2] 84 (0, 0)) (Far.Ba BK323.out) hb); have n1_ := Aside0.mk (below_step (by repeat (first | (with_reducible first | exact HB.out | apply below_alloc | apply pw_below_drewN | apply below_drew1 | refine below_set ?_ GE323.out) | exact HB.out)) hb); have n2_ := Aside0.mk (hbox); have n3_ := Aside0.mk ((by rw [hg]; exact (below_size (by repeat (first | (with_reducible first | exact HB.out | apply below_alloc | apply pw_below_drewN | apply below_drew1 | refine below_set ?_ GE323.out) | exact HB.out))) : w.heap.size ≤ gb324)); have n4_ := Aside0.mk ((by rw [hg]; exact (below_size (by repeat (first | (with_reducible first | exact HB.out | apply below_alloc | apply pw_below_drewN | apply below_drew1 | refine below_set ?_ GE323.out) | exact HB.out))) : w.heap.size ≤ gb324)); have n5_ := Aside0.mk ((by rw [hg]; exact Nat.ne_of_lt (blk_lt (g := gb323) (o := .cells #[.int .u64 a0_0, .slice A0_1 l0_1.length c0_1, .int .u32 a0_2] 84 (0, 0)) (Far.Ba BK323.out)) : gb323 ≠ gb324)); have n6_ := Aside0.mk ((by rw [hg]; exact Nat.ne_of_gt (blk_lt (g := gb323) (o := .cells #[.int .u64 a0_0, .slice A0_1 l0_1.length c0_1, .int .u32 a0_2] 84 (0, 0)) (Far.Ba BK323.out)) : gb324 ≠ gb323)); clear BK323 HB; have BK323 := n0_; have HB := n1_; have BK324 := n2_; have GW324 := n3_; have GE324 := n4_; have NB323_324 := n5_; have NB324_323 := n6_; clear n0_ n1_ n2_ n3_ n4_ n5_ n6_; clear hb hbox hg; have hnb18 := NB323_324.out; have hnc18 := NB324_323.out; have hcz19_0 : w17.cell? ⟨gb323, 0, none⟩ = some (.int .u64 a0_0) := (blk_cell BK323.out 0).trans rfl; have hcz19_1 : w17.cell? ⟨gb323, 1, none⟩ = some (.slice A0_1 l0_1.length c0_1) := (blk_cell BK323.out 1).trans rfl; have hcz19_2 : w17.cell? ⟨gb323, 2, none⟩ = some (.int .u32 a0_2) := (blk_cell BK323.out 2).trans rfl; have hfz19_0 := blk_frozen BK323.out 0; have hfz19_1 := blk_frozen BK323.out 1; have hfz19_2 := blk_frozen BK323.out 2; have hcz20_0 : w17.cell? ⟨gb324, 0, none⟩ = some (.int .u64 a1_0) := (blk_cell BK324.out 0).trans rfl; have hcz20_1 : w17.cell? ⟨gb324, 1, none⟩ = some (.slice A1_1 l1_1.length c1_1) := (blk_cell BK324.out 1).trans rfl; have hcz20_2 : w17.cell? ⟨gb324, 2, none⟩ = some (.int .u32 a1_2) := (blk_cell BK324.out 2).trans rfl; have hfz20_0 := blk_frozen BK324.out 0; have hfz20_1 := blk_frozen BK324.out 1; have hfz20_2 := blk_frozen BK324.out 2))
    go_ret
    exact ⟨by first | rfl | (simp [errW_none, errW_some] <;> rfl) | (simp [*, errW_none, errW_some] <;> rfl) | (refine congrArg (fun z_ : Int => Ending.returned (.bool (z_ == _))) ?_; simp only [IntKind.wrap, IntKind.bits, IntKind.signed]; simp <;> omega), by repeat (first | (with_reducible first | exact HB.out | apply below_alloc | apply pw_below_drewN | apply below_drew1 | refine below_set ?_ GE323.out | refine below_set ?_ GE324.out) | exact HB.out)⟩

/-! ### scullerref14_Same: function 111 -/
def scullerref14_Same.f (k : Nat) (a0_0 : Int) (l0_1 : List Int) (a0_2 : Int) (l0_3 : List Int) (a1_0 : Int) (l1_1 : List Int) (a1_2 : Int) (l1_3 : List Int) : Option (Bool) := (scullerref12_Same.f k a0_0 l0_1 a0_2 a1_0 l1_1 a1_2).bind fun t328 => (if t328 = true then (some ((strOfNums l0_3).toList == (strOfNums l1_3).toList)) else (some false))
set_option maxHeartbeats 8000000 in
set_option maxRecDepth 100000 in
theorem scullerref14_Same.calls (k : Nat) (a0_0 : Int) (A0_1 : Option Addr) (c0_1 : Nat) (l0_1 : List Int) (a0_2 : Int) (A0_3 : Option Addr) (c0_3 : Nat) (l0_3 : List Int) (a1_0 : Int) (A1_1 : Option Addr) (c1_1 : Nat) (l1_1 : List Int) (a1_2 : Int) (A1_3 : Option Addr) (c1_3 : Nat) (l1_3 : List Int) (r : Bool) (w : World) (hr0_1 : Kd.C (Kd.int .i64) w A0_1 l0_1.length l0_1) (hc0_1 : l0_1.length ≤ c0_1) (hr0_3 : Kd.C (Kd.int .u8) w A0_3 l0_3.length l0_3) (hc0_3 : l0_3.length ≤ c0_3) (hr1_1 : Kd.C (Kd.int .i64) w A1_1 l1_1.length l1_1) (hc1_1 : l1_1.length ≤ c1_1) (hr1_3 : Kd.C (Kd.int .u8) w A1_3 l1_3.length l1_3) (hc1_3 : l1_3.length ≤ c1_3) (h : scullerref14_Same.f k a0_0 l0_1 a0_2 l0_3 a1_0 l1_1 a1_2 l1_3 = some r) :
    Calls Try.prog 111 #[.agg #[.int .u64 a0_0, .slice A0_1 l0_1.length c0_1, .int .u32 a0_2, .slice A0_3 l0_3.length c0_3], .agg #[.int .u64 a1_0, .slice A1_1 l1_1.length c1_1, .int .u32 a1_2, .slice A1_3 l1_3.length c1_3]] w fun e w' => e = .returned (.bool r) ∧ Below w.heap.size w w' := by
  have hu113 := Try.underlying113
  have hu84 := Try.underlying84
  have HR0_1 := Aside0.mk hr0_1
  have HC0_1 := Aside0.mk hc0_1
  clear hr0_1 hc0_1
  have HR0_3 := Aside0.mk hr0_3
  have HC0_3 := Aside0.mk hc0_3
  clear hr0_3 hc0_3
  have HR1_1 := Aside0.mk hr1_1
  have HC1_1 := Aside0.mk hc1_1
  clear hr1_1 hc1_1
  have HR1_3 := Aside0.mk hr1_3
  have HC1_3 := Aside0.mk hc1_3
  clear hr1_3 hc1_3
  have HB := Aside0.mk (Below.refl w.heap.size w)
  have H : ((scullerref12_Same.f k a0_0 l0_1 a0_2 a1_0 l1_1 a1_2).bind fun t328 => (if t328 = true then (some ((strOfNums l0_3).toList == (strOfNums l1_3).toList)) else (some false))) = some r := h
  clear h
  replace H := Option.bind_eq_some_iff.mp H
  obtain ⟨t328, A30, H⟩ := H
  replace H : (if t328 = true then (some ((strOfNums l0_3).toList == (strOfNums l1_3).toList)) else (some false)) = some r := H
  have A3 := Aside0.mk A30
  clear A30
  by_cases c4 : t328 = true
  · subst c4
    have H1 : (some ((strOfNums l0_3).toList == (strOfNums l1_3).toList)) = some r := by rw [if_pos rfl] at H; exact H
    clear H
    have H := H1
    clear H1
    obtain rfl := Option.some.inj H
    go_enter Try.func111, Try.ntmps111
    go_wp2_with (first | ((with_reducible refine gate_dst (N := 2) rfl ?_); refine box_event ?hg (N := 2) ?hd (cs := #[.int .u64 a0_0, .slice A0_1 l0_1.length c0_1, .int .u32 a0_2, .slice A0_3 l0_3.length c0_3]) (t := 113) ?hr ?_; (case hd => rfl); (case hg => rfl); (case hr => first | (go_simp; done) | (go_simp; rfl)); intro gb326 hg w5 hbox hb; have n0_ := Aside0.mk (below_step (Far.Bb HB.out) hb); have n1_ := Aside0.mk (hbox); have n2_ := Aside0.mk ((by rw [hg]; exact (below_size (Far.Bb HB.out)) : w.heap.size ≤ gb326)); have n3_ := Aside0.mk ((by rw [hg]; exact (below_size (Far.Bb HB.out)) : w.heap.size ≤ gb326)); clear HB; have HB := n0_; have BK326 := n1_; have GW326 := n2_; have GE326 := n3_; clear n0_ n1_ n2_ n3_; clear hb hbox hg) | ((with_reducible refine gate_dst (N := 3) rfl ?_); refine box_event ?hg (N := 3) ?hd (cs := #[.int .u64 a1_0, .slice A1_1 l1_1.length c1_1, .int .u32 a1_2, .slice A1_3 l1_3.length c1_3]) (t := 113) ?hr ?_; (case hd => rfl); (case hg => rfl); (case hr => first | (go_simp; done) | (go_simp; rfl)); intro gb327 hg w6 hbox hb; have n0_ := Aside0.mk (blk_below (g := gb326) (o := .cells #[.int .u64 a0_0, .slice A0_1 l0_1.length c0_1, .int .u32 a0_2, .slice A0_3 l0_3.length c0_3] 113 (0, 0)) (Far.Ba BK326.out) hb); have n1_ := Aside0.mk (below_step (by repeat (first | (with_reducible first | exact HB.out | apply below_alloc | apply pw_below_drewN | apply below_drew1 | refine below_set ?_ GE326.out) | exact HB.out)) hb); have n2_ := Aside0.mk (hbox); have n3_ := Aside0.mk ((by rw [hg]; exact (below_size (by repeat (first | (with_reducible first | exact HB.out | apply below_alloc | apply pw_below_drewN | apply below_drew1 | refine below_set ?_ GE326.out) | exact HB.out))) : w.heap.size ≤ gb327)); have n4_ := Aside0.mk ((by rw [hg]; exact (below_size (by repeat (first | (with_reducible first | exact HB.out | apply below_alloc | apply pw_below_drewN | apply below_drew1 | refine below_set ?_ GE326.out) | exact HB.out))) : w.heap.size ≤ gb327)); have n5_ := Aside0.mk ((by rw [hg]; exact Nat.ne_of_lt (blk_lt (g := gb326) (o := .cells #[.int .u64 a0_0, .slice A0_1 l0_1.length c0_1, .int .u32 a0_2, .slice A0_3 l0_3.length c0_3] 113 (0, 0)) (Far.Ba BK326.out)) : gb326 ≠ gb327)); have n6_ := Aside0.mk ((by rw [hg]; exact Nat.ne_of_gt (blk_lt (g := gb326) (o := .cells #[.int .u64 a0_0, .slice A0_1 l0_1.length c0_1, .int .u32 a0_2, .slice A0_3 l0_3.length c0_3] 113 (0, 0)) (Far.Ba BK326.out)) : gb327 ≠ gb326)); clear BK326 HB; have BK326 := n0_; have HB := n1_; have BK327 := n2_; have GW327 := n3_; have GE327 := n4_; have NB326_327 := n5_; have NB327_326 := n6_; clear n0_ n1_ n2_ n3_ n4_ n5_ n6_; clear hb hbox hg; have hnb7 := NB326_327.out; have hnc7 := NB327_326.out; have hcz8_0 : w6.cell? ⟨gb326, 0, none⟩ = some (.int .u64 a0_0) := (blk_cell BK326.out 0).trans rfl; have hcz8_1 : w6.cell? ⟨gb326, 1, none⟩ = some (.slice A0_1 l0_1.length c0_1) := (blk_cell BK326.out 1).trans rfl; have hcz8_2 : w6.cell? ⟨gb326, 2, none⟩ = some (.int .u32 a0_2) := (blk_cell BK326.out 2).trans rfl; have hcz8_3 : w6.cell? ⟨gb326, 3, none⟩ = some (.slice A0_3 l0_3.length c0_3) := (blk_cell BK326.out 3).trans rfl; have hfz8_0 := blk_frozen BK326.out 0; have hfz8_1 := blk_frozen BK326.out 1; have hfz8_2 := blk_frozen BK326.out 2; have hfz8_3 := blk_frozen BK326.out 3; have hcz9_0 : w6.cell? ⟨gb327, 0, none⟩ = some (.int .u64 a1_0) := (blk_cell BK327.out 0).trans rfl; have hcz9_1 : w6.cell? ⟨gb327, 1, none⟩ = some (.slice A1_1 l1_1.length c1_1) := (blk_cell BK327.out 1).trans rfl; have hcz9_2 : w6.cell? ⟨gb327, 2, none⟩ = some (.int .u32 a1_2) := (blk_cell BK327.out 2).trans rfl; have hcz9_3 : w6.cell? ⟨gb327, 3, none⟩ = some (.slice A1_3 l1_3.length c1_3) := (blk_cell BK327.out 3).trans rfl; have hfz9_0 := blk_frozen BK327.out 0; have hfz9_1 := blk_frozen BK327.out 1; have hfz9_2 := blk_frozen BK327.out 2; have hfz9_3 := blk_frozen BK327.out 3) | ((with_reducible refine gate_callee (f := 174) rfl ?_); refine goesL_ (some 9) rfl rfl Try.func174 (by kernel_rfl) rfl #[.agg #[.int .u64 a0_0, .slice A0_1 l0_1.length c0_1, .int .u32 a0_2], .agg #[.int .u64 a1_0, .slice A1_1 l1_1.length c1_1, .int .u32 a1_2]] rfl (by (try simp only [List.map_toArray, List.map_cons, List.map_nil]); first | done | rfl | (simp only [List.length_drop, List.length_take]; rfl)) ?_; (with_reducible refine (scullerref12_Same.calls k a0_0 _ _ l0_1 a0_2 a1_0 _ _ l1_1 a1_2 true _ ?side1 ?side2 ?side3 ?side4 A3.out).mono ?_); (case side1 => repeat (first | exact (Kd.C_below HR0_1.out HB.out) | (with_reducible refine Kd.C_alloc ?_ _) | (with_reducible refine Kd.C_drewN ?_ _) | (with_reducible refine Kd.C_drew ?_))); (case side2 => exact HC0_1.out); (case side3 => repeat (first | exact (Kd.C_below HR1_1.out HB.out) | (with_reducible refine Kd.C_alloc ?_ _) | (with_reducible refine Kd.C_drewN ?_ _) | (with_reducible refine Kd.C_drew ?_))); (case side4 => exact HC1_1.out); rintro e w10 ⟨rfl, hb⟩; refine ⟨_, rfl, ?_⟩; have n0_ := Aside0.mk (blk_below (g := gb326) (o := .cells #[.int .u64 a0_0, .slice A0_1 l0_1.length c0_1, .int .u32 a0_2, .slice A0_3 l0_3.length c0_3] 113 (0, 0)) (Far.Ba BK326.out) hb); have n1_ := Aside0.mk (blk_below (g := gb327) (o := .cells #[.int .u64 a1_0, .slice A1_1 l1_1.length c1_1, .int .u32 a1_2, .slice A1_3 l1_3.length c1_3] 113 (0, 0)) (Far.Ba BK327.out) hb); have n2_ := Aside0.mk (below_step (by repeat (first | (with_reducible first | exact HB.out | apply below_alloc | apply pw_below_drewN | apply below_drew1 | refine below_set ?_ GE326.out | refine below_set ?_ GE327.out) | exact HB.out)) hb); clear BK326 BK327 HB; have BK326 := n0_; have BK327 := n1_; have HB := n2_; clear n0_ n1_ n2_; (try clear hb); (try clear hb2); (try clear hk); (try clear hi); have hcz11_0 : w10.cell? ⟨gb326, 0, none⟩ = some (.int .u64 a0_0) := (blk_cell BK326.out 0).trans rfl; have hcz11_1 : w10.cell? ⟨gb326, 1, none⟩ = some (.slice A0_1 l0_1.length c0_1) := (blk_cell BK326.out 1).trans rfl; have hcz11_2 : w10.cell? ⟨gb326, 2, none⟩ = some (.int .u32 a0_2) := (blk_cell BK326.out 2).trans rfl; have hcz11_3 : w10.cell? ⟨gb326, 3, none⟩ = some (.slice A0_3 l0_3.length c0_3) := (blk_cell BK326.out 3).trans rfl; have hfz11_0 := blk_frozen BK326.out 0; have hfz11_1 := blk_frozen BK326.out 1; have hfz11_2 := blk_frozen BK326.out 2; have hfz11_3 := blk_frozen BK326.out 3; have hcv12 := Kd.C_string (P := Try.prog) (A := A0_3) (c := c0_3) Try.underlying29 Try.underlying5 Try.underlying9 (Kd.C_below HR0_3.out HB.out); have hcz13_0 : w10.cell? ⟨gb327, 0, none⟩ = some (.int .u64 a1_0) := (blk_cell BK327.out 0).trans rfl; have hcz13_1 : w10.cell? ⟨gb327, 1, none⟩ = some (.slice A1_1 l1_1.length c1_1) := (blk_cell BK327.out 1).trans rfl; have hcz13_2 : w10.cell? ⟨gb327, 2, none⟩ = some (.int .u32 a1_2) := (blk_cell BK327.out 2).trans rfl; have hcz13_3 : w10.cell? ⟨gb327, 3, none⟩ = some (.slice A1_3 l1_3.length c1_3) := (blk_cell BK327.out 3).trans rfl; have hfz13_0 := blk_frozen BK327.out 0; have hfz13_1 := blk_frozen BK327.out 1; have hfz13_2 := blk_frozen BK327.out 2; have hfz13_3 := blk_frozen BK327.out 3; have hcv14 := Kd.C_string (P := Try.prog) (A := A1_3) (c := c1_3) Try.underlying29 Try.underlying5 Try.underlying9 (Kd.C_below HR1_3.out HB.out)))
    go_ret
    exact ⟨by first | rfl | (simp [errW_none, errW_some] <;> rfl) | (simp [*, errW_none, errW_some] <;> rfl) | (refine congrArg (fun z_ : Int => Ending.returned (.bool (z_ == _))) ?_; simp only [IntKind.wrap, IntKind.bits, IntKind.signed]; simp <;> omega), by repeat (first | (with_reducible first | exact HB.out | apply below_alloc | apply pw_below_drewN | apply below_drew1 | refine below_set ?_ GE326.out | refine below_set ?_ GE327.out) | exact HB.out)⟩
  · replace c4 := Bool.eq_false_iff.mpr c4
    subst c4
    have H1 : (some false) = some r := by rw [if_neg (show ¬ (false = true) by decide)] at H; exact H
    clear H
    have H := H1
    clear H1
    obtain rfl := Option.some.inj H
    go_enter Try.func111, Try.ntmps111
    go_wp2_with (first | ((with_reducible refine gate_dst (N := 2) rfl ?_); refine box_event ?hg (N := 2) ?hd (cs := #[.int .u64 a0_0, .slice A0_1 l0_1.length c0_1, .int .u32 a0_2, .slice A0_3 l0_3.length c0_3]) (t := 113) ?hr ?_; (case hd => rfl); (case hg => rfl); (case hr => first | (go_simp; done) | (go_simp; rfl)); intro gb326 hg w15 hbox hb; have n0_ := Aside0.mk (below_step (Far.Bb HB.out) hb); have n1_ := Aside0.mk (hbox); have n2_ := Aside0.mk ((by rw [hg]; exact (below_size (Far.Bb HB.out)) : w.heap.size ≤ gb326)); have n3_ := Aside0.mk ((by rw [hg]; exact (below_size (Far.Bb HB.out)) : w.heap.size ≤ gb326)); clear HB; have HB := n0_; have BK326 := n1_; have GW326 := n2_; have GE326 := n3_; clear n0_ n1_ n2_ n3_; clear hb hbox hg) | ((with_reducible refine gate_dst (N := 3) rfl ?_); refine box_event ?hg (N := 3) ?hd (cs := #[.int .u64 a1_0, .slice A1_1 l1_1.length c1_1, .int .u32 a1_2, .slice A1_3 l1_3.length c1_3]) (t := 113) ?hr ?_; (case hd => rfl); (case hg => rfl); (case hr => first | (go_simp; done) | (go_simp; rfl)); intro gb327 hg w16 hbox hb; have n0_ := Aside0.mk (blk_below (g := gb326) (o := .cells #[.int .u64 a0_0, .slice A0_1 l0_1.length c0_1, .int .u32 a0_2, .slice A0_3 l0_3.length c0_3] 113 (0, 0)) (Far.Ba BK326.out) hb); have n1_ := Aside0.mk (below_step (by repeat (first | (with_reducible first | exact HB.out | apply below_alloc | apply pw_below_drewN | apply below_drew1 | refine below_set ?_ GE326.out) | exact HB.out)) hb); have n2_ := Aside0.mk (hbox); have n3_ := Aside0.mk ((by rw [hg]; exact (below_size (by repeat (first | (with_reducible first | exact HB.out | apply below_alloc | apply pw_below_drewN | apply below_drew1 | refine below_set ?_ GE326.out) | exact HB.out))) : w.heap.size ≤ gb327)); have n4_ := Aside0.mk ((by rw [hg]; exact (below_size (by repeat (first | (with_reducible first | exact HB.out | apply below_alloc | apply pw_below_drewN | apply below_drew1 | refine below_set ?_ GE326.out) | exact HB.out))) : w.heap.size ≤ gb327)); have n5_ := Aside0.mk ((by rw [hg]; exact Nat.ne_of_lt (blk_lt (g := gb326) (o := .cells #[.int .u64 a0_0, .slice A0_1 l0_1.length c0_1, .int .u32 a0_2, .slice A0_3 l0_3.length c0_3] 113 (0, 0)) (Far.Ba BK326.out)) : gb326 ≠ gb327)); have n6_ := Aside0.mk ((by rw [hg]; exact Nat.ne_of_gt (blk_lt (g := gb326) (o := .cells #[.int .u64 a0_0, .slice A0_1 l0_1.length c0_1, .int .u32 a0_2, .slice A0_3 l0_3.length c0_3] 113 (0, 0)) (Far.Ba BK326.out)) : gb327 ≠ gb326)); clear BK326 HB; have BK326 := n0_; have HB := n1_; have BK327 := n2_; have GW327 := n3_; have GE327 := n4_; have NB326_327 := n5_; have NB327_326 := n6_; clear n0_ n1_ n2_ n3_ n4_ n5_ n6_; clear hb hbox hg; have hnb17 := NB326_327.out; have hnc17 := NB327_326.out; have hcz18_0 : w16.cell? ⟨gb326, 0, none⟩ = some (.int .u64 a0_0) := (blk_cell BK326.out 0).trans rfl; have hcz18_1 : w16.cell? ⟨gb326, 1, none⟩ = some (.slice A0_1 l0_1.length c0_1) := (blk_cell BK326.out 1).trans rfl; have hcz18_2 : w16.cell? ⟨gb326, 2, none⟩ = some (.int .u32 a0_2) := (blk_cell BK326.out 2).trans rfl; have hcz18_3 : w16.cell? ⟨gb326, 3, none⟩ = some (.slice A0_3 l0_3.length c0_3) := (blk_cell BK326.out 3).trans rfl; have hfz18_0 := blk_frozen BK326.out 0; have hfz18_1 := blk_frozen BK326.out 1; have hfz18_2 := blk_frozen BK326.out 2; have hfz18_3 := blk_frozen BK326.out 3; have hcz19_0 : w16.cell? ⟨gb327, 0, none⟩ = some (.int .u64 a1_0) := (blk_cell BK327.out 0).trans rfl; have hcz19_1 : w16.cell? ⟨gb327, 1, none⟩ = some (.slice A1_1 l1_1.length c1_1) := (blk_cell BK327.out 1).trans rfl; have hcz19_2 : w16.cell? ⟨gb327, 2, none⟩ = some (.int .u32 a1_2) := (blk_cell BK327.out 2).trans rfl; have hcz19_3 : w16.cell? ⟨gb327, 3, none⟩ = some (.slice A1_3 l1_3.length c1_3) := (blk_cell BK327.out 3).trans rfl; have hfz19_0 := blk_frozen BK327.out 0; have hfz19_1 := blk_frozen BK327.out 1; have hfz19_2 := blk_frozen BK327.out 2; have hfz19_3 := blk_frozen BK327.out 3) | ((with_reducible refine gate_callee (f := 174) rfl ?_); refine goesL_ (some 9) rfl rfl Try.func174 (by kernel_rfl) rfl #[.agg #[.int .u64 a0_0, .slice A0_1 l0_1.length c0_1, .int .u32 a0_2], .agg #[.int .u64 a1_0, .slice A1_1 l1_1.length c1_1, .int .u32 a1_2]] rfl (by (try simp only [List.map_toArray, List.map_cons, List.map_nil]); first | done | rfl | (simp only [List.length_drop, List.length_take]; rfl)) ?_; (with_reducible refine (scullerref12_Same.calls k a0_0 _ _ l0_1 a0_2 a1_0 _ _ l1_1 a1_2 false _ ?side1 ?side2 ?side3 ?side4 A3.out).mono ?_); (case side1 => repeat (first | exact (Kd.C_below HR0_1.out HB.out) | (with_reducible refine Kd.C_alloc ?_ _) | (with_reducible refine Kd.C_drewN ?_ _) | (with_reducible refine Kd.C_drew ?_))); (case side2 => exact HC0_1.out); (case side3 => repeat (first | exact (Kd.C_below HR1_1.out HB.out) | (with_reducible refine Kd.C_alloc ?_ _) | (with_reducible refine Kd.C_drewN ?_ _) | (with_reducible refine Kd.C_drew ?_))); (case side4 => exact HC1_1.out); rintro e w20 ⟨rfl, hb⟩; refine ⟨_, rfl, ?_⟩; have n0_ := Aside0.mk (blk_below (g := gb326) (o := .cells #[.int .u64 a0_0, .slice A0_1 l0_1.length c0_1, .int .u32 a0_2, .slice A0_3 l0_3.length c0_3] 113 (0, 0)) (Far.Ba BK326.out) hb); have n1_ := Aside0.mk (blk_below (g := gb327) (o := .cells #[.int .u64 a1_0, .slice A1_1 l1_1.length c1_1, .int .u32 a1_2, .slice A1_3 l1_3.length c1_3] 113 (0, 0)) (Far.Ba BK327.out) hb); have n2_ := Aside0.mk (below_step (by repeat (first | (with_reducible first | exact HB.out | apply below_alloc | apply pw_below_drewN | apply below_drew1 | refine below_set ?_ GE326.out | refine below_set ?_ GE327.out) | exact HB.out)) hb); clear BK326 BK327 HB; have BK326 := n0_; have BK327 := n1_; have HB := n2_; clear n0_ n1_ n2_; (try clear hb); (try clear hb2); (try clear hk); (try clear hi)))
    go_ret
    exact ⟨by first | rfl | (simp [errW_none, errW_some] <;> rfl) | (simp [*, errW_none, errW_some] <;> rfl) | (refine congrArg (fun z_ : Int => Ending.returned (.bool (z_ == _))) ?_; simp only [IntKind.wrap, IntKind.bits, IntKind.signed]; simp <;> omega), by repeat (first | (with_reducible first | exact HB.out | apply below_alloc | apply pw_below_drewN | apply below_drew1 | refine below_set ?_ GE326.out | refine below_set ?_ GE327.out) | exact HB.out)⟩

end Go.Proofs.Ytcjicfpdmegckaa.K
