/- Written by a program of this repo (wip/tools/gprint.py): what functions of the Go program compute, the proofs that they do, and the rows of statements. Conditions: those in each theorem. -/
import Derived.Test.YtbaokbfmancjlaaBx0
import Derived.Test.YtbaokbfmancjlaaBx3
import Derived.Test.YtbaokbfmancjlaaBgKnown02
namespace Go.Proofs.Ytbaokbfmancjlaa.B
open Go.RowKit Go.Proofs.YtbaokbfmancjlaaW.PrintWords Go.Proofs.YtbaokbfmancjlaaW.PrintLast Go.Proofs.YtbaokbfmancjlaaW.PrintMore
attribute [local go_sem] max2_int min2_int max_two min_two max_three min_three max_four min_four   -- for this text's walks alone
set_option linter.unusedVariables false
set_option linter.unusedSimpArgs false

/-! ### scullerlaw02_CrcBurst: function 13 -/
mutual
def scullerlaw02_CrcBurst.l0 : Nat → Int → List Int → Int → Int → Option (Bool)
  | 0, _, _, _, _ => none
  | k + 1, x2, x7, x8, x9 => if x9 < 32 then (scullerlaw02_CrcBurst.j1 k x2 x7 x8 x9 (decide ((wrap64 (x8 + x9)) < (wrap64 (8 * (x7.length : Int)))))) else (scullerlaw02_CrcBurst.j1 k x2 x7 x8 x9 false)
def scullerlaw02_CrcBurst.j1 : Nat → Int → List Int → Int → Int → Bool → Option (Bool)
  | 0, _, _, _, _, _ => none
  | k + 1, x2, x7, x8, x9, x37 => if x37 = true then (if 0 ≤ (IntKind.u64.wrap (x9)) then (if (Int.tmod (shr .u32 x2 (IntKind.u64.wrap (x9))) 2) = 1 then (if 0 ≤ (wrap64 (Int.tdiv (wrap64 (x8 + x9)) 8)) then (if (wrap64 (Int.tdiv (wrap64 (x8 + x9)) 8)) < (x7.length : Int) then (if 0 ≤ (IntKind.u64.wrap (Int.tmod (wrap64 (x8 + x9)) 8)) then (scullerlaw02_CrcBurst.l0 k x2 (x7.set ((wrap64 (Int.tdiv (wrap64 (x8 + x9)) 8)) : Int).toNat (Go.bits .xor .u8 (rd x7 (wrap64 (Int.tdiv (wrap64 (x8 + x9)) 8))) (shl .u8 1 (IntKind.u64.wrap (Int.tmod (wrap64 (x8 + x9)) 8))))) x8 (wrap64 (x9 + 1))) else (none)) else (none)) else (none)) else (scullerlaw02_CrcBurst.l0 k x2 x7 x8 (wrap64 (x9 + 1)))) else (none)) else (if x2 = 0 then ((scullerlaw02_known.f k).bind fun t126 => (if t126 = true then ((crc_Right.f k x7).bind fun t127 => (some (t127 == true))) else (some false))) else (if (mn (wrap64 ((wrap64 (8 * (x7.length : Int))) - x8)) 32) < 32 then (if 0 ≤ (IntKind.u64.wrap (mn (wrap64 ((wrap64 (8 * (x7.length : Int))) - x8)) 32)) then (if (shl .u32 1 (IntKind.u64.wrap (mn (wrap64 ((wrap64 (8 * (x7.length : Int))) - x8)) 32))) = 0 then (none) else ((scullerlaw02_known.f k).bind fun t128 => (if t128 = true then ((crc_Right.f k x7).bind fun t129 => (some (t129 == ((Int.tmod x2 (shl .u32 1 (IntKind.u64.wrap (mn (wrap64 ((wrap64 (8 * (x7.length : Int))) - x8)) 32)))) == 0)))) else (some false)))) else (none)) else ((scullerlaw02_known.f k).bind fun t130 => (if t130 = true then ((crc_Right.f k x7).bind fun t131 => (some (t131 == false))) else (some false)))))
end
def scullerlaw02_CrcBurst.f (k : Nat) (l0 : List Int) (a1 : Int) (a2 : Int) : Option (Bool) := if (l0.length : Int) > 300 then ((scullerlaw02_known.f k).bind fun t120 => (some t120)) else ((crc_Seal.f k l0).bind fun t121 => (if (t121.length : Int) = 0 then (some false) else (if (wrap64 (8 * (t121.length : Int))) = 0 then (none) else (scullerlaw02_CrcBurst.l0 k a2 t121 (Int.tmod (wrap64 (a1)) (wrap64 (8 * (t121.length : Int)))) 0))))
theorem scullerlaw02_CrcBurst.mono_l : ∀ k, (∀ y0 y1 y2 y3, LeO (scullerlaw02_CrcBurst.l0 k y0 y1 y2 y3) (scullerlaw02_CrcBurst.l0 (k + 1) y0 y1 y2 y3)) ∧ (∀ y0 y1 y2 y3 y4, LeO (scullerlaw02_CrcBurst.j1 k y0 y1 y2 y3 y4) (scullerlaw02_CrcBurst.j1 (k + 1) y0 y1 y2 y3 y4))
  | 0 => ⟨fun _ _ _ _ r h => by simp [scullerlaw02_CrcBurst.l0] at h, fun _ _ _ _ _ r h => by simp [scullerlaw02_CrcBurst.j1] at h⟩
  | k + 1 => by
    obtain ⟨ih0, ih1⟩ := scullerlaw02_CrcBurst.mono_l k
    refine ⟨?_, ?_⟩
    · intro y0 y1 y2 y3
      unfold scullerlaw02_CrcBurst.l0
      repeat' first
      | (with_reducible exact ih0 _ _ _ _)
      | (with_reducible exact ih1 _ _ _ _ _)
      | (with_reducible exact crc_Right.mono _ _)
      | (with_reducible exact crc_Seal.mono _ _)
      | (with_reducible exact scullerlaw02_known.mono _)
      | (with_reducible exact LeO.refl _)
      | (with_reducible exact LeO.none _)
      | (with_reducible refine LeO.ite ?_ ?_)
      | (with_reducible refine LeO.bind ?_ (fun _ => ?_))
      | exact ih0 _ _ _ _
      | exact ih1 _ _ _ _ _
      | exact crc_Right.mono _ _
      | exact crc_Seal.mono _ _
      | exact scullerlaw02_known.mono _
      | exact LeO.none _
      | refine LeO.ite ?_ ?_
      | refine LeO.bind ?_ (fun _ => ?_)
    · intro y0 y1 y2 y3 y4
      unfold scullerlaw02_CrcBurst.j1
      repeat' first
      | (with_reducible exact ih0 _ _ _ _)
      | (with_reducible exact ih1 _ _ _ _ _)
      | (with_reducible exact crc_Right.mono _ _)
      | (with_reducible exact crc_Seal.mono _ _)
      | (with_reducible exact scullerlaw02_known.mono _)
      | (with_reducible exact LeO.refl _)
      | (with_reducible exact LeO.none _)
      | (with_reducible refine LeO.ite ?_ ?_)
      | (with_reducible refine LeO.bind ?_ (fun _ => ?_))
      | exact ih0 _ _ _ _
      | exact ih1 _ _ _ _ _
      | exact crc_Right.mono _ _
      | exact crc_Seal.mono _ _
      | exact scullerlaw02_known.mono _
      | exact LeO.none _
      | refine LeO.ite ?_ ?_
      | refine LeO.bind ?_ (fun _ => ?_)
theorem scullerlaw02_CrcBurst.mono : ∀ a0 a1 a2 k, LeO (scullerlaw02_CrcBurst.f k a0 a1 a2) (scullerlaw02_CrcBurst.f (k + 1) a0 a1 a2) := by
  intro a0 a1 a2 k
  obtain ⟨ih0, ih1⟩ := scullerlaw02_CrcBurst.mono_l k
  unfold scullerlaw02_CrcBurst.f
  repeat' first
      | (with_reducible exact ih0 _ _ _ _)
      | (with_reducible exact ih1 _ _ _ _ _)
      | (with_reducible exact crc_Right.mono _ _)
      | (with_reducible exact crc_Seal.mono _ _)
      | (with_reducible exact scullerlaw02_known.mono _)
      | (with_reducible exact LeO.refl _)
      | (with_reducible exact LeO.none _)
      | (with_reducible refine LeO.ite ?_ ?_)
      | (with_reducible refine LeO.bind ?_ (fun _ => ?_))
      | exact ih0 _ _ _ _
      | exact ih1 _ _ _ _ _
      | exact crc_Right.mono _ _
      | exact crc_Seal.mono _ _
      | exact scullerlaw02_known.mono _
      | exact LeO.none _
      | refine LeO.ite ?_ ?_
      | refine LeO.bind ?_ (fun _ => ?_)
set_option maxHeartbeats 8000000 in
set_option maxRecDepth 100000 in
theorem scullerlaw02_CrcBurst.calls (k : Nat) (A0 : Option Addr) (c0 : Nat) (l0 : List Int) (a1 : Int) (a2 : Int) (r : Bool) (w : World) (hr0 : Kd.C (Kd.int .u8) w A0 l0.length l0) (hc0 : l0.length ≤ c0) (h : scullerlaw02_CrcBurst.f k l0 a1 a2 = some r) :
    Calls Try.prog 13 #[.slice A0 l0.length c0, .int .u16 a1, .int .u32 a2] w fun e w' => e = .returned (.bool r) ∧ Below w.heap.size w w' := by
  have HR0 := Aside0.mk hr0
  have HC0 := Aside0.mk hc0
  clear hr0 hc0
  have HB := Aside0.mk (Below.refl w.heap.size w)
  have H : (if (l0.length : Int) > 300 then ((scullerlaw02_known.f k).bind fun t120 => (some t120)) else ((crc_Seal.f k l0).bind fun t121 => (if (t121.length : Int) = 0 then (some false) else (if (wrap64 (8 * (t121.length : Int))) = 0 then (none) else (scullerlaw02_CrcBurst.l0 k a2 t121 (Int.tmod (wrap64 (a1)) (wrap64 (8 * (t121.length : Int)))) 0))))) = some r := h
  clear h
  by_cases c4 : (l0.length : Int) > 300
  · rw [if_pos c4] at H
    have c4b0 : decide (300 < (l0.length : Int)) = true := decide_eq_true c4
    have c4b1 : decide (300 < l0.length) = true := decide_eq_true (by omega)
    clear c4
    replace H := Option.bind_eq_some_iff.mp H
    obtain ⟨t120, A50, H⟩ := H
    replace H : (some t120) = some r := H
    have A5 := Aside0.mk A50
    clear A50
    obtain rfl := Option.some.inj H
    go_enter Try.func13, Try.ntmps13
    go_wp2_with (first | ((first | ((with_reducible refine gate_callee (f := 37) rfl ?_); refine goesL_ (some 15) rfl rfl Try.func37 (by kernel_rfl) rfl #[] rfl (by (try simp only [List.map_toArray, List.map_cons, List.map_nil]); first | done | rfl | (simp only [List.length_drop, List.length_take]; rfl)) ?_; (with_reducible refine (scullerlaw02_known.calls k  t120 _ A5.out).mono ?_); rintro e w6 ⟨rfl, hb⟩; refine ⟨_, rfl, ?_⟩) | (go_at_call 37; (with_reducible refine (scullerlaw02_known.calls k  t120 _ A5.out).mono ?_); rintro e w6 ⟨rfl, hb⟩)); have n0_ := Aside0.mk (below_step (by repeat (first | (with_reducible first | exact HB.out | apply below_alloc | apply pw_below_drewN | apply below_drew1) | exact HB.out)) hb); clear HB; have HB := n0_; clear n0_; (try clear hb); (try clear hb2); (try clear hk); (try clear hi)))
    go_ret
    exact ⟨by first | rfl | (simp [errW_none, errW_some] <;> rfl) | (simp [*, errW_none, errW_some] <;> rfl), by repeat (first | (with_reducible first | exact HB.out | apply below_alloc | apply pw_below_drewN | apply below_drew1) | exact HB.out)⟩
  · rw [if_neg c4] at H
    have c4b0 : decide (300 < (l0.length : Int)) = false := decide_eq_false c4
    have c4b1 : decide (300 < l0.length) = false := decide_eq_false (by omega)
    clear c4
    replace H := Option.bind_eq_some_iff.mp H
    obtain ⟨t121, A70, H⟩ := H
    replace H : (if (t121.length : Int) = 0 then (some false) else (if (wrap64 (8 * (t121.length : Int))) = 0 then (none) else (scullerlaw02_CrcBurst.l0 k a2 t121 (Int.tmod (wrap64 (a1)) (wrap64 (8 * (t121.length : Int)))) 0))) = some r := H
    have A7 := Aside0.mk A70
    clear A70
    by_cases c8 : (t121.length : Int) = 0
    · rw [if_pos c8] at H
      have c8b0 : ((t121.length : Int) == 0) = true := beq_iff_eq.mpr c8
      have c8b1 : ((t121.length : Int) != 0) = false := bne_eq_false_iff_eq.mpr c8
      clear c8
      obtain rfl := Option.some.inj H
      go_enter Try.func13, Try.ntmps13
      go_wp2_with (first | ((first | ((with_reducible refine gate_callee (f := 46) rfl ?_); refine goesL_ (some 17) rfl rfl Try.func46 (by kernel_rfl) rfl #[.slice A0 l0.length c0] rfl (by (try simp only [List.map_toArray, List.map_cons, List.map_nil]); first | done | rfl | (simp only [List.length_drop, List.length_take]; rfl)) ?_; (with_reducible refine (crc_Seal.calls k _ _ l0 t121 _ ?side1 ?side2 A7.out).mono ?_); (case side1 => repeat (first | exact HR0.out | (with_reducible refine Kd.C_alloc ?_ _) | (with_reducible refine Kd.C_drewN ?_ _) | (with_reducible refine Kd.C_drew ?_))); (case side2 => exact HC0.out); rintro e w9 ⟨v122, rfl, ho0, hb⟩; refine ⟨_, rfl, ?_⟩) | (go_at_call 46; (with_reducible refine (crc_Seal.calls k _ _ l0 t121 _ ?side1 ?side2 A7.out).mono ?_); (case side1 => repeat (first | exact HR0.out | (with_reducible refine Kd.C_alloc ?_ _) | (with_reducible refine Kd.C_drewN ?_ _) | (with_reducible refine Kd.C_drew ?_))); (case side2 => exact HC0.out); rintro e w9 ⟨v122, rfl, ho0, hb⟩)); have n0_ := Aside0.mk (Kd.R_lower ho0 (below_size (by repeat (first | (with_reducible first | exact HB.out | apply below_alloc | apply pw_below_drewN | apply below_drew1) | exact HB.out)))); have n1_ := Aside0.mk (below_step (by repeat (first | (with_reducible first | exact HB.out | apply below_alloc | apply pw_below_drewN | apply below_drew1) | exact HB.out)) hb); clear HB; have HO123 := n0_; have HB := n1_; clear n0_ n1_; (try clear hb); (try clear hb2); (try clear hk); (try clear hi); (try clear ho0); obtain ⟨Ao10, co10, eo10⟩ := Kd.R_slice HO123.out; subst eo10))
      go_ret
      exact ⟨by first | rfl | (simp [errW_none, errW_some] <;> rfl) | (simp [*, errW_none, errW_some] <;> rfl), by repeat (first | (with_reducible first | exact HB.out | apply below_alloc | apply pw_below_drewN | apply below_drew1) | exact HB.out)⟩
    · rw [if_neg c8] at H
      have c8b0 : ((t121.length : Int) == 0) = false := beq_eq_false_iff_ne.mpr c8
      have c8b1 : ((t121.length : Int) != 0) = true := bne_iff_ne.mpr c8
      have c8b2 : ¬ (t121 = []) := fun h_ => c8 (by rw [h_]; rfl)
      by_cases c11 : (wrap64 (8 * (t121.length : Int))) = 0
      · rw [if_pos c11] at H
        exact absurd H (by simp)
      · rw [if_neg c11] at H
        have c11b0 : ((wrap64 (8 * (t121.length : Int))) == 0) = false := beq_eq_false_iff_ne.mpr c11
        have c11b1 : ((wrap64 (8 * (t121.length : Int))) != 0) = true := bne_iff_ne.mpr c11
        have H' := Aside0.mk H
        clear H
        go_enter Try.func13, Try.ntmps13
        go_wp2_with (first | ((first | ((with_reducible refine gate_callee (f := 46) rfl ?_); refine goesL_ (some 17) rfl rfl Try.func46 (by kernel_rfl) rfl #[.slice A0 l0.length c0] rfl (by (try simp only [List.map_toArray, List.map_cons, List.map_nil]); first | done | rfl | (simp only [List.length_drop, List.length_take]; rfl)) ?_; (with_reducible refine (crc_Seal.calls k _ _ l0 t121 _ ?side1 ?side2 A7.out).mono ?_); (case side1 => repeat (first | exact HR0.out | (with_reducible refine Kd.C_alloc ?_ _) | (with_reducible refine Kd.C_drewN ?_ _) | (with_reducible refine Kd.C_drew ?_))); (case side2 => exact HC0.out); rintro e w12 ⟨v122, rfl, ho0, hb⟩; refine ⟨_, rfl, ?_⟩) | (go_at_call 46; (with_reducible refine (crc_Seal.calls k _ _ l0 t121 _ ?side1 ?side2 A7.out).mono ?_); (case side1 => repeat (first | exact HR0.out | (with_reducible refine Kd.C_alloc ?_ _) | (with_reducible refine Kd.C_drewN ?_ _) | (with_reducible refine Kd.C_drew ?_))); (case side2 => exact HC0.out); rintro e w12 ⟨v122, rfl, ho0, hb⟩)); have n0_ := Aside0.mk (Kd.R_lower ho0 (below_size (by repeat (first | (with_reducible first | exact HB.out | apply below_alloc | apply pw_below_drewN | apply below_drew1) | exact HB.out)))); have n1_ := Aside0.mk (below_step (by repeat (first | (with_reducible first | exact HB.out | apply below_alloc | apply pw_below_drewN | apply below_drew1) | exact HB.out)) hb); clear HB; have HO123 := n0_; have HB := n1_; clear n0_ n1_; (try clear hb); (try clear hb2); (try clear hk); (try clear hi); (try clear ho0); obtain ⟨Ao13, co13, eo13⟩ := Kd.R_slice HO123.out; subst eo13))
        go_loopg [9] k (fun kq v9 w' => ∃ (x7_1 : List Int) (x9_1 : Int), v9 = .int .i64 x9_1 ∧ Aside0 (scullerlaw02_CrcBurst.l0 kq a2 x7_1 (Int.tmod (wrap64 (a1)) (wrap64 (8 * (t121.length : Int)))) x9_1 = some r) ∧ Aside0 (kq ≤ k) ∧ Aside0 (Kd.R (Kd.int .u8) 5 w' w.heap.size (fun _ => True) (.slice Ao13 t121.length co13) x7_1) ∧ Aside0 (Below w.heap.size w w'))
        case atStart => exact ⟨(t121), (0), (by first | rfl | (simp; done) | (simp [*]; done)), H', ⟨Nat.le_refl _⟩, ⟨by (with_reducible repeat (first | apply Kd.R_alloc | apply Kd.R_drewN | apply Kd.R_drew)); exact HO123.out⟩, ⟨by repeat (first | (with_reducible first | exact HB.out | apply below_alloc | apply pw_below_drewN | apply below_drew1) | exact HB.out)⟩⟩
        case round =>
          clear H'
          try clear c1
          try clear p2
          try clear c3
          try clear c4
          try clear c4b0
          try clear c4b1
          try clear p6
          try clear c8
          try clear c8b0
          try clear c8b1
          try clear c8b2
          try clear c11
          try clear c11b0
          try clear c11b1
          try clear c13
          obtain ⟨x7_1, x9_1, rfl, HA, HK1, HO_7, HB⟩ := hrel
          have hl7_1 := (Kd.R_reads' HO_7.out).1
          rw [hl7_1] at HO_7
          (try simp only [hl7_1])
          cases gk with
          | zero => exact absurd HA.out (by simp [scullerlaw02_CrcBurst.l0])
          | succ k1 =>
            have H := HA.out
            clear HA
            simp only [scullerlaw02_CrcBurst.l0] at H
            have HC14 := Aside0.mk H
            clear H
            go_upto_region 8 with (fail)
            go_cut [37] (fun v37 wc => ∃ (kq : Nat) (x37_13 : Bool), v37 = .bool x37_13 ∧ Aside0 (scullerlaw02_CrcBurst.j1 kq a2 x7_1 (Int.tmod (wrap64 (a1)) (wrap64 (8 * (t121.length : Int)))) x9_1 x37_13 = some r) ∧ Aside0 (kq ≤ k1) ∧ Aside0 (Kd.R (Kd.int .u8) 5 wc w.heap.size (fun _ => True) (.slice Ao13 x7_1.length co13) x7_1) ∧ Aside0 (Below w.heap.size w wc))
            case first =>
              have H := HC14.out
              clear HC14
              by_cases c15 : x9_1 < 32
              · rw [if_pos c15] at H
                have c15b0 : decide (x9_1 < 32) = true := decide_eq_true c15
                clear c15
                (first | rw [c15b0] | (simp only [i64_w, i32_w]; rw [c15b0]) | skip)
                have H' := Aside0.mk H
                clear H
                go_wp2
                go_meet
                case rel => exact ⟨_, (decide ((wrap64 ((Int.tmod (wrap64 (a1)) (wrap64 (8 * (t121.length : Int)))) + x9_1)) < (wrap64 (8 * (x7_1.length : Int))))), (by first | rfl | (simp; done) | (simp [*]; done)), H', ⟨by have := HK1.out; first | omega | exact Nat.le_refl _⟩, ⟨by (try simp only [hl7_1]); (with_reducible repeat (first | apply Kd.R_alloc | apply Kd.R_drewN | apply Kd.R_drew)); exact HO_7.out⟩, ⟨by repeat (first | (with_reducible first | exact HB.out | apply below_alloc | apply pw_below_drewN | apply below_drew1) | exact HB.out)⟩⟩
              · rw [if_neg c15] at H
                have c15b0 : decide (x9_1 < 32) = false := decide_eq_false c15
                clear c15
                (first | rw [c15b0] | (simp only [i64_w, i32_w]; rw [c15b0]) | skip)
                have H' := Aside0.mk H
                clear H
                go_wp2
                go_meet
                case rel => exact ⟨_, (false), (by first | rfl | (simp; done) | (simp [*]; done)), H', ⟨by have := HK1.out; first | omega | exact Nat.le_refl _⟩, ⟨by (try simp only [hl7_1]); (with_reducible repeat (first | apply Kd.R_alloc | apply Kd.R_drewN | apply Kd.R_drew)); exact HO_7.out⟩, ⟨by repeat (first | (with_reducible first | exact HB.out | apply below_alloc | apply pw_below_drewN | apply below_drew1) | exact HB.out)⟩⟩
            case rest =>
              clear HC14
              try clear c1
              try clear p2
              try clear c3
              try clear c4
              try clear c4b0
              try clear c4b1
              try clear p6
              try clear c8
              try clear c8b0
              try clear c8b1
              try clear c8b2
              try clear c11
              try clear c11b0
              try clear c11b1
              try clear c13
              try clear c15
              try clear c15b0
              try clear p2
              try clear p6
              obtain ⟨kq, x37_13, rfl, HA, HJ13, HO_7, HB⟩ := hcut
              cases kq with
              | zero => exact absurd HA.out (by simp [scullerlaw02_CrcBurst.j1])
              | succ kj13 =>
                have H := HA.out
                clear HA
                simp only [scullerlaw02_CrcBurst.j1] at H
                by_cases c16 : x37_13 = true
                · subst c16
                  have H1 : (if 0 ≤ (IntKind.u64.wrap (x9_1)) then (if (Int.tmod (shr .u32 a2 (IntKind.u64.wrap (x9_1))) 2) = 1 then (if 0 ≤ (wrap64 (Int.tdiv (wrap64 ((Int.tmod (wrap64 (a1)) (wrap64 (8 * (t121.length : Int)))) + x9_1)) 8)) then (if (wrap64 (Int.tdiv (wrap64 ((Int.tmod (wrap64 (a1)) (wrap64 (8 * (t121.length : Int)))) + x9_1)) 8)) < (x7_1.length : Int) then (if 0 ≤ (IntKind.u64.wrap (Int.tmod (wrap64 ((Int.tmod (wrap64 (a1)) (wrap64 (8 * (t121.length : Int)))) + x9_1)) 8)) then (scullerlaw02_CrcBurst.l0 kj13 a2 (x7_1.set ((wrap64 (Int.tdiv (wrap64 ((Int.tmod (wrap64 (a1)) (wrap64 (8 * (t121.length : Int)))) + x9_1)) 8)) : Int).toNat (Go.bits .xor .u8 (rd x7_1 (wrap64 (Int.tdiv (wrap64 ((Int.tmod (wrap64 (a1)) (wrap64 (8 * (t121.length : Int)))) + x9_1)) 8))) (shl .u8 1 (IntKind.u64.wrap (Int.tmod (wrap64 ((Int.tmod (wrap64 (a1)) (wrap64 (8 * (t121.length : Int)))) + x9_1)) 8))))) (Int.tmod (wrap64 (a1)) (wrap64 (8 * (t121.length : Int)))) (wrap64 (x9_1 + 1))) else (none)) else (none)) else (none)) else (scullerlaw02_CrcBurst.l0 kj13 a2 x7_1 (Int.tmod (wrap64 (a1)) (wrap64 (8 * (t121.length : Int)))) (wrap64 (x9_1 + 1)))) else (none)) = some r := by rw [if_pos rfl] at H; exact H
                  clear H
                  have H := H1
                  clear H1
                  obtain ⟨ji17, hji17⟩ : ∃ j_ : Int, (IntKind.u64.wrap (x9_1)) = j_ := ⟨_, rfl⟩
                  replace H : (if 0 ≤ (ji17) then (if (Int.tmod (shr .u32 a2 (ji17)) 2) = 1 then (if 0 ≤ (wrap64 (Int.tdiv (wrap64 ((Int.tmod (wrap64 (a1)) (wrap64 (8 * (t121.length : Int)))) + x9_1)) 8)) then (if (wrap64 (Int.tdiv (wrap64 ((Int.tmod (wrap64 (a1)) (wrap64 (8 * (t121.length : Int)))) + x9_1)) 8)) < (x7_1.length : Int) then (if 0 ≤ (IntKind.u64.wrap (Int.tmod (wrap64 ((Int.tmod (wrap64 (a1)) (wrap64 (8 * (t121.length : Int)))) + x9_1)) 8)) then (scullerlaw02_CrcBurst.l0 kj13 a2 (x7_1.set ((wrap64 (Int.tdiv (wrap64 ((Int.tmod (wrap64 (a1)) (wrap64 (8 * (t121.length : Int)))) + x9_1)) 8)) : Int).toNat (Go.bits .xor .u8 (rd x7_1 (wrap64 (Int.tdiv (wrap64 ((Int.tmod (wrap64 (a1)) (wrap64 (8 * (t121.length : Int)))) + x9_1)) 8))) (shl .u8 1 (IntKind.u64.wrap (Int.tmod (wrap64 ((Int.tmod (wrap64 (a1)) (wrap64 (8 * (t121.length : Int)))) + x9_1)) 8))))) (Int.tmod (wrap64 (a1)) (wrap64 (8 * (t121.length : Int)))) (wrap64 (x9_1 + 1))) else (none)) else (none)) else (none)) else (scullerlaw02_CrcBurst.l0 kj13 a2 x7_1 (Int.tmod (wrap64 (a1)) (wrap64 (8 * (t121.length : Int)))) (wrap64 (x9_1 + 1)))) else (none)) = some r := by first | (rw [hji17] at H; exact H) | (simp only [hji17] at H ⊢; exact H)
                  by_cases c18 : 0 ≤ (ji17)
                  · rw [if_pos c18] at H
                    have c18b0 := eq_true c18
                    have c18b1 : decide (0 ≤ (ji17)) = true := decide_eq_true c18
                    clear c18
                    obtain ⟨ji19, hji19⟩ : ∃ j_ : Int, (shr .u32 a2 (ji17)) = j_ := ⟨_, rfl⟩
                    replace H : (if (Int.tmod (ji19) 2) = 1 then (if 0 ≤ (wrap64 (Int.tdiv (wrap64 ((Int.tmod (wrap64 (a1)) (wrap64 (8 * (t121.length : Int)))) + x9_1)) 8)) then (if (wrap64 (Int.tdiv (wrap64 ((Int.tmod (wrap64 (a1)) (wrap64 (8 * (t121.length : Int)))) + x9_1)) 8)) < (x7_1.length : Int) then (if 0 ≤ (IntKind.u64.wrap (Int.tmod (wrap64 ((Int.tmod (wrap64 (a1)) (wrap64 (8 * (t121.length : Int)))) + x9_1)) 8)) then (scullerlaw02_CrcBurst.l0 kj13 a2 (x7_1.set ((wrap64 (Int.tdiv (wrap64 ((Int.tmod (wrap64 (a1)) (wrap64 (8 * (t121.length : Int)))) + x9_1)) 8)) : Int).toNat (Go.bits .xor .u8 (rd x7_1 (wrap64 (Int.tdiv (wrap64 ((Int.tmod (wrap64 (a1)) (wrap64 (8 * (t121.length : Int)))) + x9_1)) 8))) (shl .u8 1 (IntKind.u64.wrap (Int.tmod (wrap64 ((Int.tmod (wrap64 (a1)) (wrap64 (8 * (t121.length : Int)))) + x9_1)) 8))))) (Int.tmod (wrap64 (a1)) (wrap64 (8 * (t121.length : Int)))) (wrap64 (x9_1 + 1))) else (none)) else (none)) else (none)) else (scullerlaw02_CrcBurst.l0 kj13 a2 x7_1 (Int.tmod (wrap64 (a1)) (wrap64 (8 * (t121.length : Int)))) (wrap64 (x9_1 + 1)))) = some r := by first | (rw [hji19] at H; exact H) | (simp only [hji19] at H ⊢; exact H)
                    have hji19_ : (a2 / 2 ^ min (ji17).toNat 32) = ji19 := hji19
                    (try have hji19p : (0 ≤ ((ji17))) = True := eq_true (by omega))
                    have hji19z : (ji17) ≤ 32 → (a2 / 2 ^ (ji17).toNat) = ji19 := shr_small hji19
                    by_cases c20 : (Int.tmod (ji19) 2) = 1
                    · rw [if_pos c20] at H
                      have c20b0 : ((Int.tmod (ji19) 2) == 1) = true := beq_iff_eq.mpr c20
                      have c20b1 : ((Int.tmod (ji19) 2) != 1) = false := bne_eq_false_iff_eq.mpr c20
                      clear c20
                      obtain ⟨ji21, hji21⟩ : ∃ j_ : Int, (wrap64 (Int.tdiv (wrap64 ((Int.tmod (wrap64 (a1)) (wrap64 (8 * (t121.length : Int)))) + x9_1)) 8)) = j_ := ⟨_, rfl⟩
                      replace H : (if 0 ≤ (ji21) then (if (ji21) < (x7_1.length : Int) then (if 0 ≤ (IntKind.u64.wrap (Int.tmod (wrap64 ((Int.tmod (wrap64 (a1)) (wrap64 (8 * (t121.length : Int)))) + x9_1)) 8)) then (scullerlaw02_CrcBurst.l0 kj13 a2 (x7_1.set ((ji21) : Int).toNat (Go.bits .xor .u8 (rd x7_1 (ji21)) (shl .u8 1 (IntKind.u64.wrap (Int.tmod (wrap64 ((Int.tmod (wrap64 (a1)) (wrap64 (8 * (t121.length : Int)))) + x9_1)) 8))))) (Int.tmod (wrap64 (a1)) (wrap64 (8 * (t121.length : Int)))) (wrap64 (x9_1 + 1))) else (none)) else (none)) else (none)) = some r := by first | (rw [hji21] at H; exact H) | (simp only [hji21] at H ⊢; exact H)
                      have hji21w : (IntKind.i64.wrap (Int.tdiv (wrap64 ((Int.tmod (wrap64 (a1)) (wrap64 (8 * (t121.length : Int)))) + x9_1)) 8)) = ji21 := (i64_w _).trans hji21
                      by_cases c22 : 0 ≤ (ji21)
                      · rw [if_pos c22] at H
                        have c22b0 : decide (0 ≤ (ji21)) = true := decide_eq_true c22
                        clear c22
                        by_cases c23 : (ji21) < (x7_1.length : Int)
                        · rw [if_pos c23] at H
                          have c23b0 : decide ((ji21) < (x7_1.length : Int)) = true := decide_eq_true c23
                          (try simp only [hl7_1] at c23b0)
                          clear c23
                          obtain ⟨ji24, hji24⟩ : ∃ j_ : Int, (IntKind.u64.wrap (Int.tmod (wrap64 ((Int.tmod (wrap64 (a1)) (wrap64 (8 * (t121.length : Int)))) + x9_1)) 8)) = j_ := ⟨_, rfl⟩
                          replace H : (if 0 ≤ (ji24) then (scullerlaw02_CrcBurst.l0 kj13 a2 (x7_1.set ((ji21) : Int).toNat (Go.bits .xor .u8 (rd x7_1 (ji21)) (shl .u8 1 (ji24)))) (Int.tmod (wrap64 (a1)) (wrap64 (8 * (t121.length : Int)))) (wrap64 (x9_1 + 1))) else (none)) = some r := by first | (rw [hji24] at H; exact H) | (simp only [hji24] at H ⊢; exact H)
                          by_cases c25 : 0 ≤ (ji24)
                          · rw [if_pos c25] at H
                            have c25b0 := eq_true c25
                            have c25b1 : decide (0 ≤ (ji24)) = true := decide_eq_true c25
                            clear c25
                            obtain ⟨ji26, hji26⟩ : ∃ j_ : Int, (shl .u8 1 (ji24)) = j_ := ⟨_, rfl⟩
                            replace H : (scullerlaw02_CrcBurst.l0 kj13 a2 (x7_1.set ((ji21) : Int).toNat (Go.bits .xor .u8 (rd x7_1 (ji21)) (ji26))) (Int.tmod (wrap64 (a1)) (wrap64 (8 * (t121.length : Int)))) (wrap64 (x9_1 + 1))) = some r := by first | (rw [hji26] at H; exact H) | (simp only [hji26] at H ⊢; exact H)
                            have hji26_ : (IntKind.u8.wrap (1 * 2 ^ min (ji24).toNat 8)) = ji26 := hji26
                            (try have hji26p : (0 ≤ ((ji24))) = True := eq_true (by omega))
                            have hji26z : (ji24) ≤ 8 → (IntKind.u8.wrap (1 * 2 ^ (ji24).toNat)) = ji26 := shl_small hji26
                            have hji26u : (IntKind.u8.wrap (2 ^ min (ji24).toNat 8)) = ji26 := by have h_ := hji26_; rw [Int.one_mul] at h_; exact h_
                            have hji26v : (ji24) ≤ 8 → (IntKind.u8.wrap (2 ^ (ji24).toNat)) = ji26 := fun hle_ => by have h_ := hji26z hle_; rw [Int.one_mul] at h_; exact h_
                            obtain ⟨y125, hy125⟩ : ∃ y_ : List Int, y_ = (x7_1.set ((ji21) : Int).toNat (Go.bits .xor .u8 (rd x7_1 (ji21)) (ji26))) := ⟨_, rfl⟩
                            replace H : (scullerlaw02_CrcBurst.l0 kj13 a2 y125 (Int.tmod (wrap64 (a1)) (wrap64 (8 * (t121.length : Int)))) (wrap64 (x9_1 + 1))) = some r := by first | (rw [hy125]; with_reducible exact H) | (have H2_ := (Option.bind_some _ _).symm.trans H; rw [hy125]; with_reducible exact H2_) | (have H2_ := (Option.bind_some _ _).symm.trans H; with_reducible exact H2_) | with_reducible exact H | (rw [hy125]; exact H) | exact H
                            have Ny125 := Aside0.mk hy125
                            clear hy125
                            have H' := Aside0.mk H
                            clear H
                            have p124 : 0 ≤ ((ji21) : Int) := of_decide_eq_true (by first | (with_reducible assumption) | assumption)
                            have q124 : (ji21) < (x7_1.length : Int) := of_decide_eq_true (by first | (with_reducible assumption) | assumption)
                            obtain ⟨ad124, e124, hx124_0⟩ := Kd.at_int (Kd.R_reads' HO_7.out).2.2 (ji21) p124 q124
                            cases e124
                            replace p124 := eq_true p124
                            replace q124 := eq_true q124
                            have p27 : 0 ≤ ((ji21) : Int) := of_decide_eq_true (by first | (with_reducible assumption) | assumption)
                            have q27 : ((ji21) : Int) < ((x7_1.length : Int) : Int) := of_decide_eq_true (by first | (with_reducible assumption) | assumption)
                            obtain ⟨go27, co27, eo27, gb27, gl27, cl27, HG27⟩ := Kd.R_form HO_7.out (by omega)
                            (first | cases eo27 | (injection eo27 with ea_ en_ ec_; (first | subst ea_ | (injection ea_ with ea_; subst ea_)); subst ec_; clear en_))
                            have GB27 := Aside0.mk gb27
                            have GG27 := Aside0.mk HG27
                            clear gb27 gl27 HG27
                            (first | simp only [add_plain] at hx124_0 | skip)
                            obtain ⟨hx27_0, hf27_0⟩ := Kd.R_celln 0 HO_7.out ((ji21) : Int) p27 q27
                            replace p27 := eq_true p27
                            replace q27 := eq_true q27
                            have HP28 := Kd.R_putg HO_7.out ((ji21) : Int) (Go.bits .xor .u8 (rd x7_1 (ji21)) (ji26))
                            (try simp only [hl7_1] at hji21)
                            (try simp only [hl7_1] at hji21w)
                            (try simp only [hl7_1] at hji24)
                            go_wp2_with (first | ((with_reducible refine gate_store (t := 5) (p := 60) rfl ?_); refine store_event (t := 5) (p := 60) (v := ?vo_w29) (w1 := (wc.setCell ⟨go27, ((ji21) : Int).toNat, none⟩ (.int .u8 (Go.bits .xor .u8 (rd x7_1 (ji21)) (ji26))))) ?hg ?ho ?hn ?hr ?_; (case ho => rfl); (case hg => rfl); (case hn => rfl); (case hr => first | (go_simp; done) | (go_simp; rfl)); intro w29 hw; have hg : wc.grownBy w29 (some go27) := (by rw [hw]; exact HP28.2); have hp_ : Kd.R (Kd.int .u8) 5 w29 w.heap.size (fun _ => True) (.slice (some ⟨go27, 0, none⟩) x7_1.length co13) y125 := (by rw [hw, Ny125.out]; exact HP28.1); clear HP28; have n0_ := Aside0.mk (hp_); have n1_ := Aside0.mk ((by rw [hw]; exact below_set (HB.out) GB27.out : Below w.heap.size w w29)); clear HO_7; clear HB; have HO_7 := n0_; have HB := n1_; clear n0_ n1_; clear hg hw hp_))
                            (try simp only [← hl7_1])
                            go_roundg kj13
                            case measure => have := HK1.out; have := HJ13.out; omega
                            case rel => exact ⟨(y125), (wrap64 (x9_1 + 1)), (by first | rfl | (simp; done) | (simp [*]; done)), H', ⟨by have := HK1.out; have := HJ13.out; omega⟩, ⟨by (try simp only [hl7_1]); (with_reducible repeat (first | apply Kd.R_alloc | apply Kd.R_drewN | apply Kd.R_drew)); exact HO_7.out⟩, ⟨by repeat (first | (with_reducible first | exact HB.out | apply below_alloc | apply pw_below_drewN | apply below_drew1) | exact HB.out)⟩⟩
                          · rw [if_neg c25] at H
                            exact absurd H (by simp)
                        · rw [if_neg c23] at H
                          exact absurd H (by simp)
                      · rw [if_neg c22] at H
                        exact absurd H (by simp)
                    · rw [if_neg c20] at H
                      have c20b0 : ((Int.tmod (ji19) 2) == 1) = false := beq_eq_false_iff_ne.mpr c20
                      have c20b1 : ((Int.tmod (ji19) 2) != 1) = true := bne_iff_ne.mpr c20
                      have H' := Aside0.mk H
                      clear H
                      go_wp2
                      (try simp only [← hl7_1])
                      go_roundg kj13
                      case measure => have := HK1.out; have := HJ13.out; omega
                      case rel => exact ⟨(x7_1), (wrap64 (x9_1 + 1)), (by first | rfl | (simp; done) | (simp [*]; done)), H', ⟨by have := HK1.out; have := HJ13.out; omega⟩, ⟨by (try simp only [hl7_1]); (with_reducible repeat (first | apply Kd.R_alloc | apply Kd.R_drewN | apply Kd.R_drew)); exact HO_7.out⟩, ⟨by repeat (first | (with_reducible first | exact HB.out | apply below_alloc | apply pw_below_drewN | apply below_drew1) | exact HB.out)⟩⟩
                  · rw [if_neg c18] at H
                    exact absurd H (by simp)
                · replace c16 := Bool.eq_false_iff.mpr c16
                  subst c16
                  have H1 : (if a2 = 0 then ((scullerlaw02_known.f kj13).bind fun t126 => (if t126 = true then ((crc_Right.f kj13 x7_1).bind fun t127 => (some (t127 == true))) else (some false))) else (if (mn (wrap64 ((wrap64 (8 * (x7_1.length : Int))) - (Int.tmod (wrap64 (a1)) (wrap64 (8 * (t121.length : Int)))))) 32) < 32 then (if 0 ≤ (IntKind.u64.wrap (mn (wrap64 ((wrap64 (8 * (x7_1.length : Int))) - (Int.tmod (wrap64 (a1)) (wrap64 (8 * (t121.length : Int)))))) 32)) then (if (shl .u32 1 (IntKind.u64.wrap (mn (wrap64 ((wrap64 (8 * (x7_1.length : Int))) - (Int.tmod (wrap64 (a1)) (wrap64 (8 * (t121.length : Int)))))) 32))) = 0 then (none) else ((scullerlaw02_known.f kj13).bind fun t128 => (if t128 = true then ((crc_Right.f kj13 x7_1).bind fun t129 => (some (t129 == ((Int.tmod a2 (shl .u32 1 (IntKind.u64.wrap (mn (wrap64 ((wrap64 (8 * (x7_1.length : Int))) - (Int.tmod (wrap64 (a1)) (wrap64 (8 * (t121.length : Int)))))) 32)))) == 0)))) else (some false)))) else (none)) else ((scullerlaw02_known.f kj13).bind fun t130 => (if t130 = true then ((crc_Right.f kj13 x7_1).bind fun t131 => (some (t131 == false))) else (some false))))) = some r := by rw [if_neg (show ¬ (false = true) by decide)] at H; exact H
                  clear H
                  have H := H1
                  clear H1
                  obtain ⟨ji30, hji30⟩ : ∃ j_ : Int, (mn (wrap64 ((wrap64 (8 * (x7_1.length : Int))) - (Int.tmod (wrap64 (a1)) (wrap64 (8 * (t121.length : Int)))))) 32) = j_ := ⟨_, rfl⟩
                  replace H : (if a2 = 0 then ((scullerlaw02_known.f kj13).bind fun t126 => (if t126 = true then ((crc_Right.f kj13 x7_1).bind fun t127 => (some (t127 == true))) else (some false))) else (if (ji30) < 32 then (if 0 ≤ (IntKind.u64.wrap (ji30)) then (if (shl .u32 1 (IntKind.u64.wrap (ji30))) = 0 then (none) else ((scullerlaw02_known.f kj13).bind fun t128 => (if t128 = true then ((crc_Right.f kj13 x7_1).bind fun t129 => (some (t129 == ((Int.tmod a2 (shl .u32 1 (IntKind.u64.wrap (ji30)))) == 0)))) else (some false)))) else (none)) else ((scullerlaw02_known.f kj13).bind fun t130 => (if t130 = true then ((crc_Right.f kj13 x7_1).bind fun t131 => (some (t131 == false))) else (some false))))) = some r := by first | (rw [hji30] at H; exact H) | (simp only [hji30] at H ⊢; exact H)
                  have hji30_ : (if 32 < (wrap64 ((wrap64 (8 * (x7_1.length : Int))) - (Int.tmod (wrap64 (a1)) (wrap64 (8 * (t121.length : Int)))))) then 32 else (wrap64 ((wrap64 (8 * (x7_1.length : Int))) - (Int.tmod (wrap64 (a1)) (wrap64 (8 * (t121.length : Int))))))) = ji30 := hji30
                  by_cases c31 : a2 = 0
                  · rw [if_pos c31] at H
                    have c31b0 : (a2 == 0) = true := beq_iff_eq.mpr c31
                    have c31b1 : (a2 != 0) = false := bne_eq_false_iff_eq.mpr c31
                    clear c31
                    replace H := Option.bind_eq_some_iff.mp H
                    obtain ⟨t126, A320, H⟩ := H
                    replace H : (if t126 = true then ((crc_Right.f kj13 x7_1).bind fun t127 => (some (t127 == true))) else (some false)) = some r := H
                    have A32 := Aside0.mk A320
                    clear A320
                    by_cases c33 : t126 = true
                    · subst c33
                      have H1 : ((crc_Right.f kj13 x7_1).bind fun t127 => (some (t127 == true))) = some r := by rw [if_pos rfl] at H; exact H
                      clear H
                      have H := H1
                      clear H1
                      replace H := Option.bind_eq_some_iff.mp H
                      obtain ⟨t127, A340, H⟩ := H
                      replace H : (some (t127 == true)) = some r := H
                      have A34 := Aside0.mk A340
                      clear A340
                      obtain rfl := Option.some.inj H
                      (try simp only [hl7_1] at hji30)
                      (try simp only [hl7_1] at hji30_)
                      go_wp2_with (first | ((first | ((with_reducible refine gate_callee (f := 37) rfl ?_); refine goesL_ (some 81) rfl rfl Try.func37 (by kernel_rfl) rfl #[] rfl (by (try simp only [List.map_toArray, List.map_cons, List.map_nil]); first | done | rfl | (simp only [List.length_drop, List.length_take]; rfl)) ?_; (with_reducible refine (scullerlaw02_known.calls kj13  true _ A32.out).mono ?_); rintro e w35 ⟨rfl, hb⟩; refine ⟨_, rfl, ?_⟩) | (go_at_call 37; (with_reducible refine (scullerlaw02_known.calls kj13  true _ A32.out).mono ?_); rintro e w35 ⟨rfl, hb⟩)); have n0_ := Aside0.mk (Kd.R_below (by (with_reducible repeat (first | apply Kd.R_alloc | apply Kd.R_drewN | apply Kd.R_drew)); exact HO_7.out) hb); have n1_ := Aside0.mk (below_step (by repeat (first | (with_reducible first | exact HB.out | apply below_alloc | apply pw_below_drewN | apply below_drew1) | exact HB.out)) hb); clear HO_7; clear HB; have HO_7 := n0_; have HB := n1_; clear n0_ n1_; (try clear hb); (try clear hb2); (try clear hk); (try clear hi)) | (go_at_call 48; (with_reducible refine (crc_Right.calls kj13 _ _ x7_1 t127 _ ?side1 ?side2 A34.out).mono ?_); (case side1 => repeat (first | exact (Kd.R_reads' HO_7.out).2.2 | (with_reducible refine Kd.C_alloc ?_ _) | (with_reducible refine Kd.C_drewN ?_ _) | (with_reducible refine Kd.C_drew ?_))); (case side2 => exact (Kd.R_reads' HO_7.out).2.1); rintro e w36 ⟨rfl, hb⟩; have n0_ := Aside0.mk (Kd.R_below (by (with_reducible repeat (first | apply Kd.R_alloc | apply Kd.R_drewN | apply Kd.R_drew)); exact HO_7.out) hb); have n1_ := Aside0.mk (below_step (by repeat (first | (with_reducible first | exact HB.out | apply below_alloc | apply pw_below_drewN | apply below_drew1) | exact HB.out)) hb); clear HO_7; clear HB; have HO_7 := n0_; have HB := n1_; clear n0_ n1_; (try clear hb); (try clear hb2); (try clear hk); (try clear hi)))
                      go_ret
                      exact ⟨by first | rfl | (simp [errW_none, errW_some] <;> rfl) | (simp only [← hji30]; first | rfl | (simp [errW_none, errW_some] <;> rfl)) | (simp [*, errW_none, errW_some] <;> rfl), by repeat (first | (with_reducible first | exact HB.out | apply below_alloc | apply pw_below_drewN | apply below_drew1) | exact HB.out)⟩
                    · replace c33 := Bool.eq_false_iff.mpr c33
                      subst c33
                      have H1 : (some false) = some r := by rw [if_neg (show ¬ (false = true) by decide)] at H; exact H
                      clear H
                      have H := H1
                      clear H1
                      obtain rfl := Option.some.inj H
                      (try simp only [hl7_1] at hji30)
                      (try simp only [hl7_1] at hji30_)
                      go_wp2_with (first | ((first | ((with_reducible refine gate_callee (f := 37) rfl ?_); refine goesL_ (some 81) rfl rfl Try.func37 (by kernel_rfl) rfl #[] rfl (by (try simp only [List.map_toArray, List.map_cons, List.map_nil]); first | done | rfl | (simp only [List.length_drop, List.length_take]; rfl)) ?_; (with_reducible refine (scullerlaw02_known.calls kj13  false _ A32.out).mono ?_); rintro e w37 ⟨rfl, hb⟩; refine ⟨_, rfl, ?_⟩) | (go_at_call 37; (with_reducible refine (scullerlaw02_known.calls kj13  false _ A32.out).mono ?_); rintro e w37 ⟨rfl, hb⟩)); have n0_ := Aside0.mk (Kd.R_below (by (with_reducible repeat (first | apply Kd.R_alloc | apply Kd.R_drewN | apply Kd.R_drew)); exact HO_7.out) hb); have n1_ := Aside0.mk (below_step (by repeat (first | (with_reducible first | exact HB.out | apply below_alloc | apply pw_below_drewN | apply below_drew1) | exact HB.out)) hb); clear HO_7; clear HB; have HO_7 := n0_; have HB := n1_; clear n0_ n1_; (try clear hb); (try clear hb2); (try clear hk); (try clear hi)))
                      go_ret
                      exact ⟨by first | rfl | (simp [errW_none, errW_some] <;> rfl) | (simp only [← hji30]; first | rfl | (simp [errW_none, errW_some] <;> rfl)) | (simp [*, errW_none, errW_some] <;> rfl), by repeat (first | (with_reducible first | exact HB.out | apply below_alloc | apply pw_below_drewN | apply below_drew1) | exact HB.out)⟩
                  · rw [if_neg c31] at H
                    have c31b0 : (a2 == 0) = false := beq_eq_false_iff_ne.mpr c31
                    have c31b1 : (a2 != 0) = true := bne_iff_ne.mpr c31
                    by_cases c38 : (ji30) < 32
                    · rw [if_pos c38] at H
                      have c38b0 : decide ((ji30) < 32) = true := decide_eq_true c38
                      clear c38
                      obtain ⟨ji39, hji39⟩ : ∃ j_ : Int, (IntKind.u64.wrap (ji30)) = j_ := ⟨_, rfl⟩
                      replace H : (if 0 ≤ (ji39) then (if (shl .u32 1 (ji39)) = 0 then (none) else ((scullerlaw02_known.f kj13).bind fun t128 => (if t128 = true then ((crc_Right.f kj13 x7_1).bind fun t129 => (some (t129 == ((Int.tmod a2 (shl .u32 1 (ji39))) == 0)))) else (some false)))) else (none)) = some r := by first | (rw [hji39] at H; exact H) | (simp only [hji39] at H ⊢; exact H)
                      by_cases c40 : 0 ≤ (ji39)
                      · rw [if_pos c40] at H
                        have c40b0 := eq_true c40
                        have c40b1 : decide (0 ≤ (ji39)) = true := decide_eq_true c40
                        clear c40
                        obtain ⟨ji41, hji41⟩ : ∃ j_ : Int, (shl .u32 1 (ji39)) = j_ := ⟨_, rfl⟩
                        replace H : (if (ji41) = 0 then (none) else ((scullerlaw02_known.f kj13).bind fun t128 => (if t128 = true then ((crc_Right.f kj13 x7_1).bind fun t129 => (some (t129 == ((Int.tmod a2 (ji41)) == 0)))) else (some false)))) = some r := by first | (rw [hji41] at H; exact H) | (simp only [hji41] at H ⊢; exact H)
                        have hji41_ : (IntKind.u32.wrap (1 * 2 ^ min (ji39).toNat 32)) = ji41 := hji41
                        (try have hji41p : (0 ≤ ((ji39))) = True := eq_true (by omega))
                        have hji41z : (ji39) ≤ 32 → (IntKind.u32.wrap (1 * 2 ^ (ji39).toNat)) = ji41 := shl_small hji41
                        have hji41u : (IntKind.u32.wrap (2 ^ min (ji39).toNat 32)) = ji41 := by have h_ := hji41_; rw [Int.one_mul] at h_; exact h_
                        have hji41v : (ji39) ≤ 32 → (IntKind.u32.wrap (2 ^ (ji39).toNat)) = ji41 := fun hle_ => by have h_ := hji41z hle_; rw [Int.one_mul] at h_; exact h_
                        by_cases c42 : (ji41) = 0
                        · rw [if_pos c42] at H
                          exact absurd H (by simp)
                        · rw [if_neg c42] at H
                          have c42b0 : ((ji41) == 0) = false := beq_eq_false_iff_ne.mpr c42
                          have c42b1 : ((ji41) != 0) = true := bne_iff_ne.mpr c42
                          replace H := Option.bind_eq_some_iff.mp H
                          obtain ⟨t128, A430, H⟩ := H
                          replace H : (if t128 = true then ((crc_Right.f kj13 x7_1).bind fun t129 => (some (t129 == ((Int.tmod a2 (ji41)) == 0)))) else (some false)) = some r := H
                          have A43 := Aside0.mk A430
                          clear A430
                          by_cases c44 : t128 = true
                          · subst c44
                            have H1 : ((crc_Right.f kj13 x7_1).bind fun t129 => (some (t129 == ((Int.tmod a2 (ji41)) == 0)))) = some r := by rw [if_pos rfl] at H; exact H
                            clear H
                            have H := H1
                            clear H1
                            replace H := Option.bind_eq_some_iff.mp H
                            obtain ⟨t129, A450, H⟩ := H
                            replace H : (some (t129 == ((Int.tmod a2 (ji41)) == 0))) = some r := H
                            have A45 := Aside0.mk A450
                            clear A450
                            obtain rfl := Option.some.inj H
                            (try simp only [hl7_1] at hji30)
                            (try simp only [hl7_1] at hji30_)
                            go_wp2_with (first | ((first | ((with_reducible refine gate_callee (f := 37) rfl ?_); refine goesL_ (some 81) rfl rfl Try.func37 (by kernel_rfl) rfl #[] rfl (by (try simp only [List.map_toArray, List.map_cons, List.map_nil]); first | done | rfl | (simp only [List.length_drop, List.length_take]; rfl)) ?_; (with_reducible refine (scullerlaw02_known.calls kj13  true _ A43.out).mono ?_); rintro e w46 ⟨rfl, hb⟩; refine ⟨_, rfl, ?_⟩) | (go_at_call 37; (with_reducible refine (scullerlaw02_known.calls kj13  true _ A43.out).mono ?_); rintro e w46 ⟨rfl, hb⟩)); have n0_ := Aside0.mk (Kd.R_below (by (with_reducible repeat (first | apply Kd.R_alloc | apply Kd.R_drewN | apply Kd.R_drew)); exact HO_7.out) hb); have n1_ := Aside0.mk (below_step (by repeat (first | (with_reducible first | exact HB.out | apply below_alloc | apply pw_below_drewN | apply below_drew1) | exact HB.out)) hb); clear HO_7; clear HB; have HO_7 := n0_; have HB := n1_; clear n0_ n1_; (try clear hb); (try clear hb2); (try clear hk); (try clear hi)) | (go_at_call 48; (with_reducible refine (crc_Right.calls kj13 _ _ x7_1 t129 _ ?side1 ?side2 A45.out).mono ?_); (case side1 => repeat (first | exact (Kd.R_reads' HO_7.out).2.2 | (with_reducible refine Kd.C_alloc ?_ _) | (with_reducible refine Kd.C_drewN ?_ _) | (with_reducible refine Kd.C_drew ?_))); (case side2 => exact (Kd.R_reads' HO_7.out).2.1); rintro e w47 ⟨rfl, hb⟩; have n0_ := Aside0.mk (Kd.R_below (by (with_reducible repeat (first | apply Kd.R_alloc | apply Kd.R_drewN | apply Kd.R_drew)); exact HO_7.out) hb); have n1_ := Aside0.mk (below_step (by repeat (first | (with_reducible first | exact HB.out | apply below_alloc | apply pw_below_drewN | apply below_drew1) | exact HB.out)) hb); clear HO_7; clear HB; have HO_7 := n0_; have HB := n1_; clear n0_ n1_; (try clear hb); (try clear hb2); (try clear hk); (try clear hi)))
                            go_ret
                            exact ⟨by first | rfl | (simp [errW_none, errW_some] <;> rfl) | (simp only [← hji30, ← hji39, ← hji41]; first | rfl | (simp [errW_none, errW_some] <;> rfl)) | (simp [*, errW_none, errW_some] <;> rfl), by repeat (first | (with_reducible first | exact HB.out | apply below_alloc | apply pw_below_drewN | apply below_drew1) | exact HB.out)⟩
                          · replace c44 := Bool.eq_false_iff.mpr c44
                            subst c44
                            have H1 : (some false) = some r := by rw [if_neg (show ¬ (false = true) by decide)] at H; exact H
                            clear H
                            have H := H1
                            clear H1
                            obtain rfl := Option.some.inj H
                            (try simp only [hl7_1] at hji30)
                            (try simp only [hl7_1] at hji30_)
                            go_wp2_with (first | ((first | ((with_reducible refine gate_callee (f := 37) rfl ?_); refine goesL_ (some 81) rfl rfl Try.func37 (by kernel_rfl) rfl #[] rfl (by (try simp only [List.map_toArray, List.map_cons, List.map_nil]); first | done | rfl | (simp only [List.length_drop, List.length_take]; rfl)) ?_; (with_reducible refine (scullerlaw02_known.calls kj13  false _ A43.out).mono ?_); rintro e w48 ⟨rfl, hb⟩; refine ⟨_, rfl, ?_⟩) | (go_at_call 37; (with_reducible refine (scullerlaw02_known.calls kj13  false _ A43.out).mono ?_); rintro e w48 ⟨rfl, hb⟩)); have n0_ := Aside0.mk (Kd.R_below (by (with_reducible repeat (first | apply Kd.R_alloc | apply Kd.R_drewN | apply Kd.R_drew)); exact HO_7.out) hb); have n1_ := Aside0.mk (below_step (by repeat (first | (with_reducible first | exact HB.out | apply below_alloc | apply pw_below_drewN | apply below_drew1) | exact HB.out)) hb); clear HO_7; clear HB; have HO_7 := n0_; have HB := n1_; clear n0_ n1_; (try clear hb); (try clear hb2); (try clear hk); (try clear hi)))
                            go_ret
                            exact ⟨by first | rfl | (simp [errW_none, errW_some] <;> rfl) | (simp only [← hji30, ← hji39, ← hji41]; first | rfl | (simp [errW_none, errW_some] <;> rfl)) | (simp [*, errW_none, errW_some] <;> rfl), by repeat (first | (with_reducible first | exact HB.out | apply below_alloc | apply pw_below_drewN | apply below_drew1) | exact HB.out)⟩
                      · rw [if_neg c40] at H
                        exact absurd H (by simp)
                    · rw [if_neg c38] at H
                      have c38b0 : decide ((ji30) < 32) = false := decide_eq_false c38
                      clear c38
                      replace H := Option.bind_eq_some_iff.mp H
                      obtain ⟨t130, A490, H⟩ := H
                      replace H : (if t130 = true then ((crc_Right.f kj13 x7_1).bind fun t131 => (some (t131 == false))) else (some false)) = some r := H
                      have A49 := Aside0.mk A490
                      clear A490
                      by_cases c50 : t130 = true
                      · subst c50
                        have H1 : ((crc_Right.f kj13 x7_1).bind fun t131 => (some (t131 == false))) = some r := by rw [if_pos rfl] at H; exact H
                        clear H
                        have H := H1
                        clear H1
                        replace H := Option.bind_eq_some_iff.mp H
                        obtain ⟨t131, A510, H⟩ := H
                        replace H : (some (t131 == false)) = some r := H
                        have A51 := Aside0.mk A510
                        clear A510
                        obtain rfl := Option.some.inj H
                        (try simp only [hl7_1] at hji30)
                        (try simp only [hl7_1] at hji30_)
                        go_wp2_with (first | ((first | ((with_reducible refine gate_callee (f := 37) rfl ?_); refine goesL_ (some 81) rfl rfl Try.func37 (by kernel_rfl) rfl #[] rfl (by (try simp only [List.map_toArray, List.map_cons, List.map_nil]); first | done | rfl | (simp only [List.length_drop, List.length_take]; rfl)) ?_; (with_reducible refine (scullerlaw02_known.calls kj13  true _ A49.out).mono ?_); rintro e w52 ⟨rfl, hb⟩; refine ⟨_, rfl, ?_⟩) | (go_at_call 37; (with_reducible refine (scullerlaw02_known.calls kj13  true _ A49.out).mono ?_); rintro e w52 ⟨rfl, hb⟩)); have n0_ := Aside0.mk (Kd.R_below (by (with_reducible repeat (first | apply Kd.R_alloc | apply Kd.R_drewN | apply Kd.R_drew)); exact HO_7.out) hb); have n1_ := Aside0.mk (below_step (by repeat (first | (with_reducible first | exact HB.out | apply below_alloc | apply pw_below_drewN | apply below_drew1) | exact HB.out)) hb); clear HO_7; clear HB; have HO_7 := n0_; have HB := n1_; clear n0_ n1_; (try clear hb); (try clear hb2); (try clear hk); (try clear hi)) | (go_at_call 48; (with_reducible refine (crc_Right.calls kj13 _ _ x7_1 t131 _ ?side1 ?side2 A51.out).mono ?_); (case side1 => repeat (first | exact (Kd.R_reads' HO_7.out).2.2 | (with_reducible refine Kd.C_alloc ?_ _) | (with_reducible refine Kd.C_drewN ?_ _) | (with_reducible refine Kd.C_drew ?_))); (case side2 => exact (Kd.R_reads' HO_7.out).2.1); rintro e w53 ⟨rfl, hb⟩; have n0_ := Aside0.mk (Kd.R_below (by (with_reducible repeat (first | apply Kd.R_alloc | apply Kd.R_drewN | apply Kd.R_drew)); exact HO_7.out) hb); have n1_ := Aside0.mk (below_step (by repeat (first | (with_reducible first | exact HB.out | apply below_alloc | apply pw_below_drewN | apply below_drew1) | exact HB.out)) hb); clear HO_7; clear HB; have HO_7 := n0_; have HB := n1_; clear n0_ n1_; (try clear hb); (try clear hb2); (try clear hk); (try clear hi)))
                        go_ret
                        exact ⟨by first | rfl | (simp [errW_none, errW_some] <;> rfl) | (simp only [← hji30]; first | rfl | (simp [errW_none, errW_some] <;> rfl)) | (simp [*, errW_none, errW_some] <;> rfl), by repeat (first | (with_reducible first | exact HB.out | apply below_alloc | apply pw_below_drewN | apply below_drew1) | exact HB.out)⟩
                      · replace c50 := Bool.eq_false_iff.mpr c50
                        subst c50
                        have H1 : (some false) = some r := by rw [if_neg (show ¬ (false = true) by decide)] at H; exact H
                        clear H
                        have H := H1
                        clear H1
                        obtain rfl := Option.some.inj H
                        (try simp only [hl7_1] at hji30)
                        (try simp only [hl7_1] at hji30_)
                        go_wp2_with (first | ((first | ((with_reducible refine gate_callee (f := 37) rfl ?_); refine goesL_ (some 81) rfl rfl Try.func37 (by kernel_rfl) rfl #[] rfl (by (try simp only [List.map_toArray, List.map_cons, List.map_nil]); first | done | rfl | (simp only [List.length_drop, List.length_take]; rfl)) ?_; (with_reducible refine (scullerlaw02_known.calls kj13  false _ A49.out).mono ?_); rintro e w54 ⟨rfl, hb⟩; refine ⟨_, rfl, ?_⟩) | (go_at_call 37; (with_reducible refine (scullerlaw02_known.calls kj13  false _ A49.out).mono ?_); rintro e w54 ⟨rfl, hb⟩)); have n0_ := Aside0.mk (Kd.R_below (by (with_reducible repeat (first | apply Kd.R_alloc | apply Kd.R_drewN | apply Kd.R_drew)); exact HO_7.out) hb); have n1_ := Aside0.mk (below_step (by repeat (first | (with_reducible first | exact HB.out | apply below_alloc | apply pw_below_drewN | apply below_drew1) | exact HB.out)) hb); clear HO_7; clear HB; have HO_7 := n0_; have HB := n1_; clear n0_ n1_; (try clear hb); (try clear hb2); (try clear hk); (try clear hi)))
                        go_ret
                        exact ⟨by first | rfl | (simp [errW_none, errW_some] <;> rfl) | (simp only [← hji30]; first | rfl | (simp [errW_none, errW_some] <;> rfl)) | (simp [*, errW_none, errW_some] <;> rfl), by repeat (first | (with_reducible first | exact HB.out | apply below_alloc | apply pw_below_drewN | apply below_drew1) | exact HB.out)⟩

/-- THE ONE PURE STATEMENT of scullerlaw02_CrcBurst: yours. -/
def scullerlaw02_CrcBurst.Pure : Prop := ∀ (l0 : List Int) (a1 : Int) (a2 : Int), l0.length ≤ maxLen → l0.length * 1 ≤ 140737488351232 → (∀ x ∈ l0, (Lit.int .u8 x).wf = true) → (Lit.int .u16 a1).wf = true → (Lit.int .u32 a2).wf = true → ∃ k, scullerlaw02_CrcBurst.f k l0 a1 a2 = some true
theorem scullerlaw02_CrcBurst.walk (P : scullerlaw02_CrcBurst.Pure) (a0 : Option Addr) (len0 cap0 : Nat) (z0 : List Int) (a1 : Int) (a2 : Int) (w : World) (w0 : (a0 = none ∧ len0 = 0 ∧ cap0 = 0 ∧ z0 = []) ∨ ∃ x, a0 = some x ∧ len0 ≤ cap0 ∧ cap0 ≤ maxLen ∧ z0.length = cap0 ∧ (∀ i, i < z0.length → w.cell? (x.add i) = some (.int .u8 (z0.getD i 0))) ∧ ∀ n ∈ z0, (Lit.int .u8 n).wf = true) (y0 : len0 * 1 ≤ 140737488351232) (w1 : (Lit.int .u16 a1).wf = true) (w2 : (Lit.int .u32 a2).wf = true) :
    Calls Try.prog 13 #[.slice a0 len0 cap0, .int .u16 a1, .int .u32 a2] w fun e w' => e = .returned (.bool true) ∧ Below w.heap.size w w' := by
  obtain ⟨l0, rfl, hr0, hm0, hw0, hc0⟩ := ReadsInt.ofRowC w0
  obtain ⟨k, h⟩ := P l0 a1 a2 hm0 y0 hw0 w1 w2
  refine (scullerlaw02_CrcBurst.calls k _ _ l0 a1 a2 true w (Kd.C_of_reads (d := (0 : Int)) (h1 := fun _ => rfl) hr0) hc0 h).mono ?_
  rintro e w' ⟨rfl, hd⟩
  exact ⟨rfl, hd⟩

end Go.Proofs.Ytbaokbfmancjlaa.B
