/- Written by a program of this repo (wip/tools/gprint.py): what functions of the Go program compute, the proofs that they do, and the rows of statements. Conditions: those in each theorem. -/
import Derived.Test.YtcjicfpdmegckaaAx0
import Derived.Test.YtcjicfpdmegckaaAx1
import Derived.Test.YtcjicfpdmegckaaAx2
import Derived.Test.YtcjicfpdmegckaaAx4
import Derived.Test.YtcjicfpdmegckaaAx7
import Derived.Test.YtcjicfpdmegckaaAx8
import Derived.Test.YtcjicfpdmegckaaWFar
namespace Go.Proofs.Ytcjicfpdmegckaa.A
open Go.RowKit Go.Proofs.YtcjicfpdmegckaaW.PrintWords Go.Proofs.YtcjicfpdmegckaaW.PrintLast Go.Proofs.YtcjicfpdmegckaaW.PrintMore
attribute [local go_sem] max2_int min2_int max_two min_two max_three min_three max_four min_four   -- for this text's walks alone
set_option linter.unusedVariables false
set_option linter.unusedSimpArgs false

/-! ### scullerlaw07_ArenaWithin: function 8 -/
mutual
def scullerlaw07_ArenaWithin.j0 : Nat → Int → Int → Int → List Int → Bool → Bool → Option (Bool)
  | 0, _, _, _, _, _, _ => none
  | k + 1, x2, x3, x4, x11, x12, x13 => scullerlaw07_ArenaWithin.l0 k x2 x3 x4 x11 x12 x13 0
def scullerlaw07_ArenaWithin.l0 : Nat → Int → Int → Int → List Int → Bool → Bool → Int → Option (Bool)
  | 0, _, _, _, _, _, _, _ => none
  | k + 1, x2, x3, x4, x11, x12, x13, x14 => if x14 < (wrap64 (x4)) then (if x13 = true then ((arena_Place.f k x11 (wrap64 (Int.tmod x2 6)) (wrap64 ((wrap64 (x3)) + x14))).bind fun t195 => (scullerlaw07_ArenaWithin.l0 k x2 x3 x4 x11 x12 (decide (t195 ≥ 0)) (wrap64 (x14 + 1)))) else (scullerlaw07_ArenaWithin.l0 k x2 x3 x4 x11 x12 false (wrap64 (x14 + 1)))) else ((scullerlaw07_known.f k).bind fun t196 => (if t196 = true then (some (x12 == x13)) else (some false)))
end
def scullerlaw07_ArenaWithin.f (k : Nat) (l0 : List Int) (a1 : Int) (a2 : Int) (a3 : Int) (a4 : Int) : Option (Bool) := (scullerlaw07_Arena.f k l0 a1).bind fun t187 => ((scullerref07_Sizes.f k t187).bind fun t190 => ((arena_Within.f t190 (wrap64 (Int.tmod a2 6)) (wrap64 (a3)) (wrap64 (a4))).bind fun t193 => (if (wrap64 (Int.tmod a2 6)) < (t190.length : Int) then (if a4 ≥ 0 then (if a3 ≥ 0 then (if 0 ≤ (mn (wrap64 (Int.tmod a2 6)) (wrap64 ((t190.length : Int) - 1))) then (if (mn (wrap64 (Int.tmod a2 6)) (wrap64 ((t190.length : Int) - 1))) < (t190.length : Int) then (scullerlaw07_ArenaWithin.j0 k a2 a3 a4 t190 t193 (decide ((wrap64 (a3)) ≤ (rd t190 (mn (wrap64 (Int.tmod a2 6)) (wrap64 ((t190.length : Int) - 1))))))) else (none)) else (none)) else (scullerlaw07_ArenaWithin.j0 k a2 a3 a4 t190 t193 false)) else (scullerlaw07_ArenaWithin.j0 k a2 a3 a4 t190 t193 false)) else (scullerlaw07_ArenaWithin.j0 k a2 a3 a4 t190 t193 false))))
set_option maxHeartbeats 8000000 in
set_option maxRecDepth 100000 in
theorem scullerlaw07_ArenaWithin.calls (k : Nat) (A0 : Option Addr) (c0 : Nat) (l0 : List Int) (a1 : Int) (a2 : Int) (a3 : Int) (a4 : Int) (r : Bool) (w : World) (hr0 : Kd.C (Kd.int .u8) w A0 l0.length l0) (hc0 : l0.length ≤ c0) (h : scullerlaw07_ArenaWithin.f k l0 a1 a2 a3 a4 = some r) :
    Calls Try.prog 8 #[.slice A0 l0.length c0, .int .u8 a1, .int .u8 a2, .int .i8 a3, .int .i8 a4] w fun e w' => e = .returned (.bool r) ∧ Below w.heap.size w w' := by
  have HR0 := Aside0.mk hr0
  have HC0 := Aside0.mk hc0
  clear hr0 hc0
  have HB := Aside0.mk (Below.refl w.heap.size w)
  have H : ((scullerlaw07_Arena.f k l0 a1).bind fun t187 => ((scullerref07_Sizes.f k t187).bind fun t190 => ((arena_Within.f t190 (wrap64 (Int.tmod a2 6)) (wrap64 (a3)) (wrap64 (a4))).bind fun t193 => (if (wrap64 (Int.tmod a2 6)) < (t190.length : Int) then (if a4 ≥ 0 then (if a3 ≥ 0 then (if 0 ≤ (mn (wrap64 (Int.tmod a2 6)) (wrap64 ((t190.length : Int) - 1))) then (if (mn (wrap64 (Int.tmod a2 6)) (wrap64 ((t190.length : Int) - 1))) < (t190.length : Int) then (scullerlaw07_ArenaWithin.j0 k a2 a3 a4 t190 t193 (decide ((wrap64 (a3)) ≤ (rd t190 (mn (wrap64 (Int.tmod a2 6)) (wrap64 ((t190.length : Int) - 1))))))) else (none)) else (none)) else (scullerlaw07_ArenaWithin.j0 k a2 a3 a4 t190 t193 false)) else (scullerlaw07_ArenaWithin.j0 k a2 a3 a4 t190 t193 false)) else (scullerlaw07_ArenaWithin.j0 k a2 a3 a4 t190 t193 false))))) = some r := h
  clear h
  replace H := Option.bind_eq_some_iff.mp H
  obtain ⟨t187, A60, H⟩ := H
  replace H : ((scullerref07_Sizes.f k t187).bind fun t190 => ((arena_Within.f t190 (wrap64 (Int.tmod a2 6)) (wrap64 (a3)) (wrap64 (a4))).bind fun t193 => (if (wrap64 (Int.tmod a2 6)) < (t190.length : Int) then (if a4 ≥ 0 then (if a3 ≥ 0 then (if 0 ≤ (mn (wrap64 (Int.tmod a2 6)) (wrap64 ((t190.length : Int) - 1))) then (if (mn (wrap64 (Int.tmod a2 6)) (wrap64 ((t190.length : Int) - 1))) < (t190.length : Int) then (scullerlaw07_ArenaWithin.j0 k a2 a3 a4 t190 t193 (decide ((wrap64 (a3)) ≤ (rd t190 (mn (wrap64 (Int.tmod a2 6)) (wrap64 ((t190.length : Int) - 1))))))) else (none)) else (none)) else (scullerlaw07_ArenaWithin.j0 k a2 a3 a4 t190 t193 false)) else (scullerlaw07_ArenaWithin.j0 k a2 a3 a4 t190 t193 false)) else (scullerlaw07_ArenaWithin.j0 k a2 a3 a4 t190 t193 false)))) = some r := H
  have A6 := Aside0.mk A60
  clear A60
  replace H := Option.bind_eq_some_iff.mp H
  obtain ⟨t190, A70, H⟩ := H
  replace H : ((arena_Within.f t190 (wrap64 (Int.tmod a2 6)) (wrap64 (a3)) (wrap64 (a4))).bind fun t193 => (if (wrap64 (Int.tmod a2 6)) < (t190.length : Int) then (if a4 ≥ 0 then (if a3 ≥ 0 then (if 0 ≤ (mn (wrap64 (Int.tmod a2 6)) (wrap64 ((t190.length : Int) - 1))) then (if (mn (wrap64 (Int.tmod a2 6)) (wrap64 ((t190.length : Int) - 1))) < (t190.length : Int) then (scullerlaw07_ArenaWithin.j0 k a2 a3 a4 t190 t193 (decide ((wrap64 (a3)) ≤ (rd t190 (mn (wrap64 (Int.tmod a2 6)) (wrap64 ((t190.length : Int) - 1))))))) else (none)) else (none)) else (scullerlaw07_ArenaWithin.j0 k a2 a3 a4 t190 t193 false)) else (scullerlaw07_ArenaWithin.j0 k a2 a3 a4 t190 t193 false)) else (scullerlaw07_ArenaWithin.j0 k a2 a3 a4 t190 t193 false))) = some r := H
  have A7 := Aside0.mk A70
  clear A70
  replace H := Option.bind_eq_some_iff.mp H
  obtain ⟨t193, A80, H⟩ := H
  replace H : (if (wrap64 (Int.tmod a2 6)) < (t190.length : Int) then (if a4 ≥ 0 then (if a3 ≥ 0 then (if 0 ≤ (mn (wrap64 (Int.tmod a2 6)) (wrap64 ((t190.length : Int) - 1))) then (if (mn (wrap64 (Int.tmod a2 6)) (wrap64 ((t190.length : Int) - 1))) < (t190.length : Int) then (scullerlaw07_ArenaWithin.j0 k a2 a3 a4 t190 t193 (decide ((wrap64 (a3)) ≤ (rd t190 (mn (wrap64 (Int.tmod a2 6)) (wrap64 ((t190.length : Int) - 1))))))) else (none)) else (none)) else (scullerlaw07_ArenaWithin.j0 k a2 a3 a4 t190 t193 false)) else (scullerlaw07_ArenaWithin.j0 k a2 a3 a4 t190 t193 false)) else (scullerlaw07_ArenaWithin.j0 k a2 a3 a4 t190 t193 false)) = some r := H
  have A8 := Aside0.mk A80
  clear A80
  have HC9 := Aside0.mk H
  clear H
  go_enter Try.func8, Try.ntmps8
  go_upto_region 3 with (first | ((with_reducible refine gate_callee (f := 66) rfl ?_); refine goesL_ (some 17) rfl rfl Try.func66 (by kernel_rfl) rfl #[.slice A0 l0.length c0, .int .u8 a1] rfl (by (try simp only [List.map_toArray, List.map_cons, List.map_nil]); first | done | rfl | (simp only [List.length_drop, List.length_take]; rfl)) ?_; (with_reducible refine (scullerlaw07_Arena.calls k _ _ l0 a1 t187 _ ?side1 ?side2 A6.out).mono ?_); (case side1 => repeat (first | exact HR0.out | (with_reducible refine Kd.C_alloc ?_ _) | (with_reducible refine Kd.C_drewN ?_ _) | (with_reducible refine Kd.C_drew ?_))); (case side2 => exact HC0.out); rintro e w10 ⟨v188, rfl, ho0, hb⟩; refine ⟨_, rfl, ?_⟩; have n0_ := Aside0.mk (Kd.S_lower ho0 (below_size (Far.Bb HB.out))); have n1_ := Aside0.mk (below_step (Far.Bb HB.out) hb); clear HB; have HO189 := n0_; have HB := n1_; clear n0_ n1_; (try clear hb); (try clear hb2); (try clear hk); (try clear hi); (try clear ho0); obtain ⟨Ao11, co11, eo11⟩ := Kd.S_slice HO189.out; subst eo11) | ((with_reducible refine gate_callee (f := 65) rfl ?_); refine goesL_ (some 18) rfl rfl Try.func65 (by kernel_rfl) rfl #[.slice Ao11 t187.length co11] rfl (by (try simp only [List.map_toArray, List.map_cons, List.map_nil]); first | done | rfl | (simp only [List.length_drop, List.length_take]; rfl)) ?_; (with_reducible refine (scullerref07_Sizes.calls k _ _ t187 t190 _ ?side1 ?side2 A7.out).mono ?_); (case side1 => repeat (first | exact (Kd.S_reads' HO189.out).2.2 | (with_reducible refine Kd.C_alloc ?_ _) | (with_reducible refine Kd.C_drewN ?_ _) | (with_reducible refine Kd.C_drew ?_))); (case side2 => exact (Kd.S_reads' HO189.out).2.1); rintro e w12 ⟨v191, rfl, ho0, hb⟩; refine ⟨_, rfl, ?_⟩; have n0_ := Aside0.mk (Kd.S_below (by (with_reducible repeat (first | apply Kd.S_alloc | apply Kd.S_drewN | apply Kd.S_drew)); exact HO189.out) hb); have n1_ := Aside0.mk (Kd.R_lower ho0 (below_size (Far.Bb HB.out))); have n2_ := Aside0.mk (below_step (Far.Bb HB.out) hb); clear HO189 HB; have HO189 := n0_; have HO192 := n1_; have HB := n2_; clear n0_ n1_ n2_; (try clear hb); (try clear hb2); (try clear hk); (try clear hi); (try clear ho0); obtain ⟨Ao13, co13, eo13⟩ := Kd.R_slice HO192.out; subst eo13) | ((with_reducible refine gate_callee (f := 67) rfl ?_); refine goesL_ (some 27) rfl rfl Try.func67 (by kernel_rfl) rfl #[.slice Ao13 t190.length co13, .int .i64 (wrap64 (Int.tmod a2 6)), .int .i64 (wrap64 (a3)), .int .i64 (wrap64 (a4))] rfl (by (try simp only [List.map_toArray, List.map_cons, List.map_nil]); first | done | rfl | (simp only [List.length_drop, List.length_take]; rfl)) ?_; (with_reducible refine (arena_Within.calls _ _ t190 (wrap64 (Int.tmod a2 6)) (wrap64 (a3)) (wrap64 (a4)) t193 _ ?side1 ?side2 A8.out).mono ?_); (case side1 => repeat (first | exact (Kd.R_reads' HO192.out).2.2 | (with_reducible refine Kd.C_alloc ?_ _) | (with_reducible refine Kd.C_drewN ?_ _) | (with_reducible refine Kd.C_drew ?_))); (case side2 => exact (Kd.R_reads' HO192.out).2.1); rintro e w14 ⟨rfl, hb⟩; refine ⟨_, rfl, ?_⟩; have n0_ := Aside0.mk (Kd.S_below (by (with_reducible repeat (first | apply Kd.S_alloc | apply Kd.S_drewN | apply Kd.S_drew)); exact HO189.out) hb); have n1_ := Aside0.mk (Kd.R_below (Far.Ra HO192.out) hb); have n2_ := Aside0.mk (below_step (Far.Bb HB.out) hb); clear HO189 HO192 HB; have HO189 := n0_; have HO192 := n1_; have HB := n2_; clear n0_ n1_ n2_; (try clear hb); (try clear hb2); (try clear hk); (try clear hi)))
  (try simp only [Act.put, List.setIfInBounds_toArray, List.set_cons_zero, List.set_cons_succ])
  go_cut [13] (fun v13 wc => ∃ (kq : Nat) (x13_8 : Bool), v13 = .bool x13_8 ∧ Aside0 (scullerlaw07_ArenaWithin.j0 kq a2 a3 a4 t190 t193 x13_8 = some r) ∧ Aside0 (kq ≤ k) ∧ Aside0 (Kd.R (Kd.int .i64) 3 wc w.heap.size (fun _ => True) (.slice Ao13 t190.length co13) t190) ∧ Aside0 (Below w.heap.size w wc))
  case first =>
    have H := HC9.out
    clear HC9
    by_cases c15 : (wrap64 (Int.tmod a2 6)) < (t190.length : Int)
    · rw [if_pos c15] at H
      have c15b0 : decide ((wrap64 (Int.tmod a2 6)) < (t190.length : Int)) = true := decide_eq_true c15
      clear c15
      (first | rw [c15b0] | (simp only [i64_w, i32_w]; rw [c15b0]) | skip)
      by_cases c16 : a4 ≥ 0
      · rw [if_pos c16] at H
        have c16b0 : decide (0 ≤ a4) = true := decide_eq_true c16
        clear c16
        by_cases c17 : a3 ≥ 0
        · rw [if_pos c17] at H
          have c17b0 : decide (0 ≤ a3) = true := decide_eq_true c17
          clear c17
          obtain ⟨ji18, hji18⟩ : ∃ j_ : Int, (mn (wrap64 (Int.tmod a2 6)) (wrap64 ((t190.length : Int) - 1))) = j_ := ⟨_, rfl⟩
          replace H : (if 0 ≤ (ji18) then (if (ji18) < (t190.length : Int) then (scullerlaw07_ArenaWithin.j0 k a2 a3 a4 t190 t193 (decide ((wrap64 (a3)) ≤ (rd t190 (ji18))))) else (none)) else (none)) = some r := by first | (rw [hji18] at H; exact H) | (simp only [hji18] at H ⊢; exact H)
          have hji18_ : (if (wrap64 ((t190.length : Int) - 1)) < (wrap64 (Int.tmod a2 6)) then (wrap64 ((t190.length : Int) - 1)) else (wrap64 (Int.tmod a2 6))) = ji18 := hji18
          by_cases c19 : 0 ≤ (ji18)
          · rw [if_pos c19] at H
            have c19b0 : decide (0 ≤ (ji18)) = true := decide_eq_true c19
            clear c19
            by_cases c20 : (ji18) < (t190.length : Int)
            · rw [if_pos c20] at H
              have c20b0 : decide ((ji18) < (t190.length : Int)) = true := decide_eq_true c20
              clear c20
              have H' := Aside0.mk H
              clear H
              have p194 : 0 ≤ ((ji18) : Int) := of_decide_eq_true (by first | (with_reducible assumption) | assumption)
              have q194 : (ji18) < (t190.length : Int) := of_decide_eq_true (by first | (with_reducible assumption) | assumption)
              (try (obtain ⟨Ax_, cx_, ex_⟩ := Kd.R_slice HO192.out; subst ex_))
              obtain ⟨ad194, e194, hx194_0⟩ := Kd.at_int (Kd.R_reads' HO192.out).2.2 (ji18) p194 q194
              cases e194
              replace p194 := eq_true p194
              replace q194 := eq_true q194
              go_wp2
              go_meet
              case rel => exact ⟨_, (decide ((wrap64 (a3)) ≤ (rd t190 (ji18)))), (by first | rfl | (simp; done) | (simp only [← hji18] <;> (first | rfl | simp)) | (simp [*]; done)), H', ⟨by first | omega | exact Nat.le_refl _⟩, ⟨by (with_reducible repeat (first | apply Kd.R_alloc | apply Kd.R_drewN | apply Kd.R_drew)); exact HO192.out⟩, ⟨by repeat (first | (with_reducible first | exact HB.out | apply below_alloc | apply pw_below_drewN | apply below_drew1) | exact HB.out)⟩⟩
            · rw [if_neg c20] at H
              exact absurd H (by simp)
          · rw [if_neg c19] at H
            exact absurd H (by simp)
        · rw [if_neg c17] at H
          have c17b0 : decide (0 ≤ a3) = false := decide_eq_false c17
          clear c17
          have H' := Aside0.mk H
          clear H
          go_wp2
          go_meet
          case rel => exact ⟨_, (false), (by first | rfl | (simp; done) | (simp [*]; done)), H', ⟨by first | omega | exact Nat.le_refl _⟩, ⟨by (with_reducible repeat (first | apply Kd.R_alloc | apply Kd.R_drewN | apply Kd.R_drew)); exact HO192.out⟩, ⟨by repeat (first | (with_reducible first | exact HB.out | apply below_alloc | apply pw_below_drewN | apply below_drew1) | exact HB.out)⟩⟩
      · rw [if_neg c16] at H
        have c16b0 : decide (0 ≤ a4) = false := decide_eq_false c16
        clear c16
        have H' := Aside0.mk H
        clear H
        go_wp2
        go_meet
        case rel => exact ⟨_, (false), (by first | rfl | (simp; done) | (simp [*]; done)), H', ⟨by first | omega | exact Nat.le_refl _⟩, ⟨by (with_reducible repeat (first | apply Kd.R_alloc | apply Kd.R_drewN | apply Kd.R_drew)); exact HO192.out⟩, ⟨by repeat (first | (with_reducible first | exact HB.out | apply below_alloc | apply pw_below_drewN | apply below_drew1) | exact HB.out)⟩⟩
    · rw [if_neg c15] at H
      have c15b0 : decide ((wrap64 (Int.tmod a2 6)) < (t190.length : Int)) = false := decide_eq_false c15
      clear c15
      (first | rw [c15b0] | (simp only [i64_w, i32_w]; rw [c15b0]) | skip)
      have H' := Aside0.mk H
      clear H
      go_wp2
      go_meet
      case rel => exact ⟨_, (false), (by first | rfl | (simp; done) | (simp [*]; done)), H', ⟨by first | omega | exact Nat.le_refl _⟩, ⟨by (with_reducible repeat (first | apply Kd.R_alloc | apply Kd.R_drewN | apply Kd.R_drew)); exact HO192.out⟩, ⟨by repeat (first | (with_reducible first | exact HB.out | apply below_alloc | apply pw_below_drewN | apply below_drew1) | exact HB.out)⟩⟩
  case rest =>
    clear HC9; (try clear c1); (try clear p1); (try clear q1); (try clear hx1); (try clear c2); (try clear p2); (try clear c6); (try clear p6); (try clear c8); (try clear c15); (try clear c15b0); (try clear c16); (try clear c16b0); (try clear c17); (try clear c17b0); (try clear c19); (try clear c19b0); (try clear p19); (try clear q19); (try clear hx19); (try clear c20); (try clear c20b0); (try clear hx194_0); (try clear p194); (try clear q194)
    obtain ⟨kq, x13_8, rfl, HA, HJ8, HO_11, HB⟩ := hcut
    cases kq with
    | zero => exact absurd HA.out (by simp [scullerlaw07_ArenaWithin.j0])
    | succ kj8 =>
      have H := HA.out
      clear HA
      simp only [scullerlaw07_ArenaWithin.j0] at H
      have H' := Aside0.mk H
      clear H
      go_wp2
      go_loopg [13, 14] kj8 (fun kq v13 v14 w' => ∃ (x13_2 : Bool) (x14_2 : Int), v13 = .bool x13_2 ∧ v14 = .int .i64 x14_2 ∧ Aside0 (scullerlaw07_ArenaWithin.l0 kq a2 a3 a4 t190 t193 x13_2 x14_2 = some r) ∧ Aside0 (kq ≤ kj8) ∧ Aside0 (Kd.R (Kd.int .i64) 3 w' w.heap.size (fun _ => True) (.slice Ao13 t190.length co13) t190) ∧ Aside0 (Below w.heap.size w w'))
      case atStart => exact ⟨(x13_8), (0), (by first | rfl | (simp; done) | (simp [*]; done)), (by first | rfl | (simp; done) | (simp [*]; done)), H', ⟨Nat.le_refl _⟩, ⟨by (with_reducible repeat (first | apply Kd.R_alloc | apply Kd.R_drewN | apply Kd.R_drew)); exact HO_11.out⟩, ⟨by repeat (first | (with_reducible first | exact HB.out | apply below_alloc | apply pw_below_drewN | apply below_drew1) | exact HB.out)⟩⟩
      case round =>
        clear H'; (try clear c1); (try clear p1); (try clear q1); (try clear hx1); (try clear c2); (try clear p2); (try clear c6); (try clear p6); (try clear c8); (try clear c15); (try clear c15b0); (try clear c16); (try clear c16b0); (try clear c17); (try clear c17b0); (try clear c19); (try clear c19b0); (try clear p19); (try clear q19); (try clear hx19); (try clear c20); (try clear c20b0); (try clear hx194_0); (try clear p1); (try clear p19); (try clear p194); (try clear p2); (try clear p6); (try clear q1); (try clear q19); (try clear q194)
        obtain ⟨x13_2, x14_2, rfl, rfl, HA, HK2, HO_11, HB⟩ := hrel
        cases gk with
        | zero => exact absurd HA.out (by simp [scullerlaw07_ArenaWithin.l0])
        | succ k2 =>
          have H := HA.out
          clear HA
          simp only [scullerlaw07_ArenaWithin.l0] at H
          by_cases c21 : x14_2 < (wrap64 (a4))
          · rw [if_pos c21] at H
            have c21b0 : decide (x14_2 < (wrap64 (a4))) = true := decide_eq_true c21
            clear c21
            by_cases c22 : x13_2 = true
            · subst c22
              have H1 : ((arena_Place.f k2 t190 (wrap64 (Int.tmod a2 6)) (wrap64 ((wrap64 (a3)) + x14_2))).bind fun t195 => (scullerlaw07_ArenaWithin.l0 k2 a2 a3 a4 t190 t193 (decide (t195 ≥ 0)) (wrap64 (x14_2 + 1)))) = some r := by rw [if_pos rfl] at H; exact H
              clear H
              have H := H1
              clear H1
              replace H := Option.bind_eq_some_iff.mp H
              obtain ⟨t195, A230, H⟩ := H
              replace H : (scullerlaw07_ArenaWithin.l0 k2 a2 a3 a4 t190 t193 (decide (t195 ≥ 0)) (wrap64 (x14_2 + 1))) = some r := H
              have A23 := Aside0.mk A230
              clear A230
              have H' := Aside0.mk H
              clear H
              go_wp2_with (first | (go_at_call 68; (with_reducible refine (arena_Place.calls k2 _ _ t190 (wrap64 (Int.tmod a2 6)) (wrap64 ((wrap64 (a3)) + x14_2)) t195 _ ?side1 ?side2 A23.out).mono ?_); (case side1 => repeat (first | exact (Kd.R_reads' HO_11.out).2.2 | (with_reducible refine Kd.C_alloc ?_ _) | (with_reducible refine Kd.C_drewN ?_ _) | (with_reducible refine Kd.C_drew ?_))); (case side2 => exact (Kd.R_reads' HO_11.out).2.1); rintro e w24 ⟨rfl, hb⟩; have n0_ := Aside0.mk (Kd.R_below (Far.Ra HO_11.out) hb); have n1_ := Aside0.mk (below_step (Far.Bb HB.out) hb); clear HO_11 HB; have HO_11 := n0_; have HB := n1_; clear n0_ n1_; (try clear hb); (try clear hb2); (try clear hk); (try clear hi)))
              go_roundg k2
              case measure => have := HJ8.out; have := HK2.out; omega
              case rel => exact ⟨(decide (t195 ≥ 0)), (wrap64 (x14_2 + 1)), (by first | rfl | (simp; done) | (simp [*]; done)), (by first | rfl | (simp; done) | (simp [*]; done)), H', ⟨by have := HJ8.out; have := HK2.out; omega⟩, ⟨by (with_reducible repeat (first | apply Kd.R_alloc | apply Kd.R_drewN | apply Kd.R_drew)); exact HO_11.out⟩, ⟨by repeat (first | (with_reducible first | exact HB.out | apply below_alloc | apply pw_below_drewN | apply below_drew1) | exact HB.out)⟩⟩
            · replace c22 := Bool.eq_false_iff.mpr c22
              subst c22
              have H1 : (scullerlaw07_ArenaWithin.l0 k2 a2 a3 a4 t190 t193 false (wrap64 (x14_2 + 1))) = some r := by rw [if_neg (show ¬ (false = true) by decide)] at H; exact H
              clear H
              have H := H1
              clear H1
              have H' := Aside0.mk H
              clear H
              go_wp2
              go_roundg k2
              case measure => have := HJ8.out; have := HK2.out; omega
              case rel => exact ⟨(false), (wrap64 (x14_2 + 1)), (by first | rfl | (simp; done) | (simp [*]; done)), (by first | rfl | (simp; done) | (simp [*]; done)), H', ⟨by have := HJ8.out; have := HK2.out; omega⟩, ⟨by (with_reducible repeat (first | apply Kd.R_alloc | apply Kd.R_drewN | apply Kd.R_drew)); exact HO_11.out⟩, ⟨by repeat (first | (with_reducible first | exact HB.out | apply below_alloc | apply pw_below_drewN | apply below_drew1) | exact HB.out)⟩⟩
          · rw [if_neg c21] at H
            have c21b0 : decide (x14_2 < (wrap64 (a4))) = false := decide_eq_false c21
            clear c21
            replace H := Option.bind_eq_some_iff.mp H
            obtain ⟨t196, A250, H⟩ := H
            replace H : (if t196 = true then (some (t193 == x13_2)) else (some false)) = some r := H
            have A25 := Aside0.mk A250
            clear A250
            by_cases c26 : t196 = true
            · subst c26
              have H1 : (some (t193 == x13_2)) = some r := by rw [if_pos rfl] at H; exact H
              clear H
              have H := H1
              clear H1
              obtain rfl := Option.some.inj H
              go_wp2_with (first | ((with_reducible refine gate_callee (f := 63) rfl ?_); refine goesL_ (some 76) rfl rfl Try.func63 (by kernel_rfl) rfl #[] rfl (by (try simp only [List.map_toArray, List.map_cons, List.map_nil]); first | done | rfl | (simp only [List.length_drop, List.length_take]; rfl)) ?_; (with_reducible refine (scullerlaw07_known.calls k2  true _ A25.out).mono ?_); rintro e w27 ⟨rfl, hb⟩; refine ⟨_, rfl, ?_⟩; have n0_ := Aside0.mk (Kd.R_below (Far.Ra HO_11.out) hb); have n1_ := Aside0.mk (below_step (Far.Bb HB.out) hb); clear HO_11 HB; have HO_11 := n0_; have HB := n1_; clear n0_ n1_; (try clear hb); (try clear hb2); (try clear hk); (try clear hi)))
              go_ret
              exact ⟨by first | rfl | (simp [errW_none, errW_some] <;> rfl) | (simp [*, errW_none, errW_some] <;> rfl) | (refine congrArg (fun z_ : Int => Ending.returned (.bool (z_ == _))) ?_; simp only [IntKind.wrap, IntKind.bits, IntKind.signed]; simp <;> omega), by repeat (first | (with_reducible first | exact HB.out | apply below_alloc | apply pw_below_drewN | apply below_drew1) | exact HB.out)⟩
            · replace c26 := Bool.eq_false_iff.mpr c26
              subst c26
              have H1 : (some false) = some r := by rw [if_neg (show ¬ (false = true) by decide)] at H; exact H
              clear H
              have H := H1
              clear H1
              obtain rfl := Option.some.inj H
              go_wp2_with (first | ((with_reducible refine gate_callee (f := 63) rfl ?_); refine goesL_ (some 76) rfl rfl Try.func63 (by kernel_rfl) rfl #[] rfl (by (try simp only [List.map_toArray, List.map_cons, List.map_nil]); first | done | rfl | (simp only [List.length_drop, List.length_take]; rfl)) ?_; (with_reducible refine (scullerlaw07_known.calls k2  false _ A25.out).mono ?_); rintro e w28 ⟨rfl, hb⟩; refine ⟨_, rfl, ?_⟩; have n0_ := Aside0.mk (Kd.R_below (Far.Ra HO_11.out) hb); have n1_ := Aside0.mk (below_step (Far.Bb HB.out) hb); clear HO_11 HB; have HO_11 := n0_; have HB := n1_; clear n0_ n1_; (try clear hb); (try clear hb2); (try clear hk); (try clear hi)))
              go_ret
              exact ⟨by first | rfl | (simp [errW_none, errW_some] <;> rfl) | (simp [*, errW_none, errW_some] <;> rfl) | (refine congrArg (fun z_ : Int => Ending.returned (.bool (z_ == _))) ?_; simp only [IntKind.wrap, IntKind.bits, IntKind.signed]; simp <;> omega), by repeat (first | (with_reducible first | exact HB.out | apply below_alloc | apply pw_below_drewN | apply below_drew1) | exact HB.out)⟩

/-- THE ONE PURE STATEMENT of scullerlaw07_ArenaWithin: yours. -/
def scullerlaw07_ArenaWithin.Pure : Prop := ∀ (l0 : List Int) (a1 : Int) (a2 : Int) (a3 : Int) (a4 : Int), l0.length ≤ maxLen → l0.length * 1 ≤ 140737488351232 → (∀ x ∈ l0, (Lit.int .u8 x).wf = true) → (Lit.int .u8 a1).wf = true → (Lit.int .u8 a2).wf = true → (Lit.int .i8 a3).wf = true → (Lit.int .i8 a4).wf = true → ∃ k, scullerlaw07_ArenaWithin.f k l0 a1 a2 a3 a4 = some true
theorem scullerlaw07_ArenaWithin.walk (P : scullerlaw07_ArenaWithin.Pure) (a0 : Option Addr) (len0 cap0 : Nat) (z0 : List Int) (a1 : Int) (a2 : Int) (a3 : Int) (a4 : Int) (w : World) (w0 : (a0 = none ∧ len0 = 0 ∧ cap0 = 0 ∧ z0 = []) ∨ ∃ x, a0 = some x ∧ len0 ≤ cap0 ∧ cap0 ≤ maxLen ∧ z0.length = cap0 ∧ (∀ i, i < z0.length → w.cell? (x.add i) = some (.int .u8 (z0.getD i 0))) ∧ ∀ n ∈ z0, (Lit.int .u8 n).wf = true) (y0 : len0 * 1 ≤ 140737488351232) (w1 : (Lit.int .u8 a1).wf = true) (w2 : (Lit.int .u8 a2).wf = true) (w3 : (Lit.int .i8 a3).wf = true) (w4 : (Lit.int .i8 a4).wf = true) :
    Calls Try.prog 8 #[.slice a0 len0 cap0, .int .u8 a1, .int .u8 a2, .int .i8 a3, .int .i8 a4] w fun e w' => e = .returned (.bool true) ∧ Below w.heap.size w w' := by
  obtain ⟨l0, rfl, hr0, hm0, hw0, hc0⟩ := ReadsInt.ofRowC w0
  obtain ⟨k, h⟩ := P l0 a1 a2 a3 a4 hm0 y0 hw0 w1 w2 w3 w4
  refine (scullerlaw07_ArenaWithin.calls k _ _ l0 a1 a2 a3 a4 true w (Kd.C_of_reads (d := (0 : Int)) (h1 := fun _ => rfl) hr0) hc0 h).mono ?_
  rintro e w' ⟨rfl, hd⟩
  exact ⟨rfl, hd⟩

/-! ### scullerlaw07_words: function 72 -/
def scullerlaw07_words.l0 : Nat → List (List Int) → Int → Int → Option (Int)
  | 0, _, _, _ => none
  | k + 1, x0, x3, x4 => if x4 < (x0.length : Int) then (if 0 ≤ x4 then (scullerlaw07_words.l0 k x0 (wrap64 (x3 + ((rd_L3 x0 x4).length : Int))) (wrap64 (x4 + 1))) else (none)) else (some x3)
def scullerlaw07_words.f (k : Nat) (l0 : List (List Int)) : Option (Int) := scullerlaw07_words.l0 k l0 0 0
set_option maxHeartbeats 8000000 in
set_option maxRecDepth 100000 in
theorem scullerlaw07_words.calls (k : Nat) (A0 : Option Addr) (c0 : Nat) (l0 : List (List Int)) (r : Int) (w : World) (hr0 : Kd.C (Kd.slice 22 (Kd.int .u64)) w A0 l0.length l0) (hc0 : l0.length ≤ c0) (h : scullerlaw07_words.f k l0 = some r) :
    Calls Try.prog 72 #[.slice A0 l0.length c0] w fun e w' => e = .returned (.int .i64 r) ∧ Drawn0 w w' := by
  have HR0 := Aside0.mk hr0
  have HC0 := Aside0.mk hc0
  clear hr0 hc0
  have H : (scullerlaw07_words.l0 k l0 0 0) = some r := h
  clear h
  have H' := Aside0.mk H
  clear H
  go_enter Try.func72, Try.ntmps72
  go_wp2
  go_loopg [3, 4] k (fun kq v3 v4 w' => ∃ (x3_1 : Int) (x4_1 : Int), v3 = .int .i64 x3_1 ∧ v4 = .int .i64 x4_1 ∧ Aside0 (scullerlaw07_words.l0 kq l0 x3_1 x4_1 = some r) ∧ Aside0 (kq ≤ k) ∧ Drawn0 w w')
  case atStart => exact ⟨(0), (0), (by first | rfl | (simp; done) | (simp [*]; done)), (by first | rfl | (simp; done) | (simp [*]; done)), H', ⟨Nat.le_refl _⟩, by repeat (first | exact Drawn0.refl _ | apply Drawn0.step)⟩
  case round =>
    clear H'
    obtain ⟨x3_1, x4_1, rfl, rfl, HA, HK1, ⟨m1, rfl⟩⟩ := hrel
    cases gk with
    | zero => exact absurd HA.out (by simp [scullerlaw07_words.l0])
    | succ k1 =>
      have H := HA.out
      clear HA
      simp only [scullerlaw07_words.l0] at H
      by_cases c2 : x4_1 < (l0.length : Int)
      · rw [if_pos c2] at H
        have c2b0 : decide (x4_1 < (l0.length : Int)) = true := decide_eq_true c2
        clear c2
        by_cases c3 : 0 ≤ x4_1
        · rw [if_pos c3] at H
          have c3b0 : decide (0 ≤ x4_1) = true := decide_eq_true c3
          clear c3
          have H' := Aside0.mk H
          clear H
          have p197 : 0 ≤ (x4_1 : Int) := of_decide_eq_true (by first | (with_reducible assumption) | assumption)
          have q197 : x4_1 < (l0.length : Int) := of_decide_eq_true (by first | (with_reducible assumption) | assumption)
          obtain ⟨ad197, A197_0, c197_0, e197, hx197_0, hl197_0, hi197_0⟩ := at_L3 HR0.out x4_1 p197 q197
          cases e197
          have HR197_0 := Aside0.mk hi197_0
          have HC197_0 := Aside0.mk hl197_0
          clear hi197_0 hl197_0
          replace p197 := eq_true p197
          replace q197 := eq_true q197
          go_wp2
          go_roundg k1
          case measure => have := HK1.out; omega
          case rel => exact ⟨(wrap64 (x3_1 + ((rd_L3 l0 x4_1).length : Int))), (wrap64 (x4_1 + 1)), (by first | rfl | (simp; done) | (simp [*]; done)), (by first | rfl | (simp; done) | (simp [*]; done)), H', ⟨by have := HK1.out; omega⟩, by repeat (first | exact Drawn0.refl _ | apply Drawn0.step)⟩
        · rw [if_neg c3] at H
          exact absurd H (by simp)
      · rw [if_neg c2] at H
        have c2b0 : decide (x4_1 < (l0.length : Int)) = false := decide_eq_false c2
        clear c2
        obtain rfl := Option.some.inj H
        go_wp2
        go_ret
        exact ⟨by first | rfl | (simp; done) | (simp [*]; done), by repeat (first | exact Drawn0.refl _ | apply Drawn0.step)⟩

end Go.Proofs.Ytcjicfpdmegckaa.A
