/- Written by a program of this repo (wip/tools/gprint.py): what functions of the Go program compute, the proofs that they do, and the rows of statements. Conditions: those in each theorem. -/
import Derived.Test.YtbaokbfmancjlaaSx0
import Derived.Test.YtbaokbfmancjlaaSx1
namespace Go.Proofs.Ytbaokbfmancjlaa.S
open Go.RowKit Go.Proofs.YtbaokbfmancjlaaW.PrintWords Go.Proofs.YtbaokbfmancjlaaW.PrintLast Go.Proofs.YtbaokbfmancjlaaW.PrintMore
attribute [local go_sem] max2_int min2_int max_two min_two max_three min_three max_four min_four   -- for this text's walks alone
set_option linter.unusedVariables false
set_option linter.unusedSimpArgs false

/-! ### scullerlaw01_WordCeils: function 4 -/
def scullerlaw01_WordCeils.f (k : Nat) (a0 : Int) (a1 : Int) : Option (Bool) := (word_Ceil.f (wrap64 (a0)) (wrap64 ((wrap64 (a1)) + 1))).bind fun t119 => ((scullerlaw01_known.f k).bind fun t120 => (if t120 = true then (if (wrap64 (t119 * (wrap64 ((wrap64 (a1)) + 1)))) ≥ (wrap64 (a0)) then (if a0 = 0 then (if t119 = 0 then (some true) else (some (decide ((wrap64 ((wrap64 (t119 - 1)) * (wrap64 ((wrap64 (a1)) + 1)))) < (wrap64 (a0)))))) else (some (decide ((wrap64 ((wrap64 (t119 - 1)) * (wrap64 ((wrap64 (a1)) + 1)))) < (wrap64 (a0)))))) else (some false)) else (some false)))
theorem scullerlaw01_WordCeils.mono : ∀ a0 a1 k, LeO (scullerlaw01_WordCeils.f k a0 a1) (scullerlaw01_WordCeils.f (k + 1) a0 a1) := by
  intro a0 a1 k
  unfold scullerlaw01_WordCeils.f
  repeat' first
      | (with_reducible exact scullerlaw01_known.mono _)
      | (with_reducible exact LeO.refl _)
      | (with_reducible exact LeO.none _)
      | (with_reducible refine LeO.ite ?_ ?_)
      | (with_reducible refine LeO.bind ?_ (fun _ => ?_))
      | exact scullerlaw01_known.mono _
      | exact LeO.none _
      | refine LeO.ite ?_ ?_
      | refine LeO.bind ?_ (fun _ => ?_)
set_option maxHeartbeats 8000000 in
set_option maxRecDepth 100000 in
theorem scullerlaw01_WordCeils.calls (k : Nat) (a0 : Int) (a1 : Int) (r : Bool) (w : World) (h : scullerlaw01_WordCeils.f k a0 a1 = some r) :
    Calls Try.prog 4 #[.int .u32 a0, .int .u16 a1] w fun e w' => e = .returned (.bool r) ∧ Below w.heap.size w w' := by
  have HB := Aside0.mk (Below.refl w.heap.size w)
  have H : ((word_Ceil.f (wrap64 (a0)) (wrap64 ((wrap64 (a1)) + 1))).bind fun t119 => ((scullerlaw01_known.f k).bind fun t120 => (if t120 = true then (if (wrap64 (t119 * (wrap64 ((wrap64 (a1)) + 1)))) ≥ (wrap64 (a0)) then (if a0 = 0 then (if t119 = 0 then (some true) else (some (decide ((wrap64 ((wrap64 (t119 - 1)) * (wrap64 ((wrap64 (a1)) + 1)))) < (wrap64 (a0)))))) else (some (decide ((wrap64 ((wrap64 (t119 - 1)) * (wrap64 ((wrap64 (a1)) + 1)))) < (wrap64 (a0)))))) else (some false)) else (some false)))) = some r := h
  clear h
  replace H := Option.bind_eq_some_iff.mp H
  obtain ⟨t119, A30, H⟩ := H
  replace H : ((scullerlaw01_known.f k).bind fun t120 => (if t120 = true then (if (wrap64 (t119 * (wrap64 ((wrap64 (a1)) + 1)))) ≥ (wrap64 (a0)) then (if a0 = 0 then (if t119 = 0 then (some true) else (some (decide ((wrap64 ((wrap64 (t119 - 1)) * (wrap64 ((wrap64 (a1)) + 1)))) < (wrap64 (a0)))))) else (some (decide ((wrap64 ((wrap64 (t119 - 1)) * (wrap64 ((wrap64 (a1)) + 1)))) < (wrap64 (a0)))))) else (some false)) else (some false))) = some r := H
  have A3 := Aside0.mk A30
  clear A30
  replace H := Option.bind_eq_some_iff.mp H
  obtain ⟨t120, A40, H⟩ := H
  replace H : (if t120 = true then (if (wrap64 (t119 * (wrap64 ((wrap64 (a1)) + 1)))) ≥ (wrap64 (a0)) then (if a0 = 0 then (if t119 = 0 then (some true) else (some (decide ((wrap64 ((wrap64 (t119 - 1)) * (wrap64 ((wrap64 (a1)) + 1)))) < (wrap64 (a0)))))) else (some (decide ((wrap64 ((wrap64 (t119 - 1)) * (wrap64 ((wrap64 (a1)) + 1)))) < (wrap64 (a0)))))) else (some false)) else (some false)) = some r := H
  have A4 := Aside0.mk A40
  clear A40
  by_cases c5 : t120 = true
  · subst c5
    have H1 : (if (wrap64 (t119 * (wrap64 ((wrap64 (a1)) + 1)))) ≥ (wrap64 (a0)) then (if a0 = 0 then (if t119 = 0 then (some true) else (some (decide ((wrap64 ((wrap64 (t119 - 1)) * (wrap64 ((wrap64 (a1)) + 1)))) < (wrap64 (a0)))))) else (some (decide ((wrap64 ((wrap64 (t119 - 1)) * (wrap64 ((wrap64 (a1)) + 1)))) < (wrap64 (a0)))))) else (some false)) = some r := by rw [if_pos rfl] at H; exact H
    clear H
    have H := H1
    clear H1
    by_cases c6 : (wrap64 (t119 * (wrap64 ((wrap64 (a1)) + 1)))) ≥ (wrap64 (a0))
    · rw [if_pos c6] at H
      have c6b0 : decide ((wrap64 (a0)) ≤ (wrap64 (t119 * (wrap64 ((wrap64 (a1)) + 1))))) = true := decide_eq_true c6
      clear c6
      by_cases c7 : a0 = 0
      · rw [if_pos c7] at H
        have c7b0 : (a0 == 0) = true := beq_iff_eq.mpr c7
        have c7b1 : (a0 != 0) = false := bne_eq_false_iff_eq.mpr c7
        clear c7
        by_cases c8 : t119 = 0
        · rw [if_pos c8] at H
          have c8b0 : (t119 == 0) = true := beq_iff_eq.mpr c8
          have c8b1 : (t119 != 0) = false := bne_eq_false_iff_eq.mpr c8
          clear c8
          obtain rfl := Option.some.inj H
          go_enter Try.func4, Try.ntmps4
          go_wp2_with (first | ((first | ((with_reducible refine gate_callee (f := 27) rfl ?_); refine goesL_ (some 13) rfl rfl Try.func27 (by kernel_rfl) rfl #[.int .i64 (wrap64 (a0)), .int .i64 (wrap64 ((wrap64 (a1)) + 1))] rfl (by (try simp only [List.map_toArray, List.map_cons, List.map_nil]); first | done | rfl | (simp only [List.length_drop, List.length_take]; rfl)) ?_; (with_reducible refine (word_Ceil.calls (wrap64 (a0)) (wrap64 ((wrap64 (a1)) + 1)) t119 _ A3.out).mono ?_); rintro e w' ⟨rfl, ⟨nd, rfl⟩⟩; refine ⟨_, rfl, ?_⟩) | (go_at_call 27; (with_reducible refine (word_Ceil.calls (wrap64 (a0)) (wrap64 ((wrap64 (a1)) + 1)) t119 _ A3.out).mono ?_); rintro e w' ⟨rfl, ⟨nd, rfl⟩⟩))) | ((first | ((with_reducible refine gate_callee (f := 26) rfl ?_); refine goesL_ (some 14) rfl rfl Try.func26 (by kernel_rfl) rfl #[] rfl (by (try simp only [List.map_toArray, List.map_cons, List.map_nil]); first | done | rfl | (simp only [List.length_drop, List.length_take]; rfl)) ?_; (with_reducible refine (scullerlaw01_known.calls k  true _ A4.out).mono ?_); rintro e w9 ⟨rfl, hb⟩; refine ⟨_, rfl, ?_⟩) | (go_at_call 26; (with_reducible refine (scullerlaw01_known.calls k  true _ A4.out).mono ?_); rintro e w9 ⟨rfl, hb⟩)); have n0_ := Aside0.mk (below_step (by repeat (first | (with_reducible first | exact HB.out | apply below_alloc | apply pw_below_drewN | apply below_drew1) | exact HB.out)) hb); clear HB; have HB := n0_; clear n0_; (try clear hb); (try clear hb2); (try clear hk); (try clear hi)))
          go_ret
          exact ⟨by first | rfl | (simp [errW_none, errW_some] <;> rfl) | (simp [*, errW_none, errW_some] <;> rfl), by repeat (first | (with_reducible first | exact HB.out | apply below_alloc | apply pw_below_drewN | apply below_drew1) | exact HB.out)⟩
        · rw [if_neg c8] at H
          have c8b0 : (t119 == 0) = false := beq_eq_false_iff_ne.mpr c8
          have c8b1 : (t119 != 0) = true := bne_iff_ne.mpr c8
          obtain rfl := Option.some.inj H
          go_enter Try.func4, Try.ntmps4
          go_wp2_with (first | ((first | ((with_reducible refine gate_callee (f := 27) rfl ?_); refine goesL_ (some 13) rfl rfl Try.func27 (by kernel_rfl) rfl #[.int .i64 (wrap64 (a0)), .int .i64 (wrap64 ((wrap64 (a1)) + 1))] rfl (by (try simp only [List.map_toArray, List.map_cons, List.map_nil]); first | done | rfl | (simp only [List.length_drop, List.length_take]; rfl)) ?_; (with_reducible refine (word_Ceil.calls (wrap64 (a0)) (wrap64 ((wrap64 (a1)) + 1)) t119 _ A3.out).mono ?_); rintro e w' ⟨rfl, ⟨nd, rfl⟩⟩; refine ⟨_, rfl, ?_⟩) | (go_at_call 27; (with_reducible refine (word_Ceil.calls (wrap64 (a0)) (wrap64 ((wrap64 (a1)) + 1)) t119 _ A3.out).mono ?_); rintro e w' ⟨rfl, ⟨nd, rfl⟩⟩))) | ((first | ((with_reducible refine gate_callee (f := 26) rfl ?_); refine goesL_ (some 14) rfl rfl Try.func26 (by kernel_rfl) rfl #[] rfl (by (try simp only [List.map_toArray, List.map_cons, List.map_nil]); first | done | rfl | (simp only [List.length_drop, List.length_take]; rfl)) ?_; (with_reducible refine (scullerlaw01_known.calls k  true _ A4.out).mono ?_); rintro e w10 ⟨rfl, hb⟩; refine ⟨_, rfl, ?_⟩) | (go_at_call 26; (with_reducible refine (scullerlaw01_known.calls k  true _ A4.out).mono ?_); rintro e w10 ⟨rfl, hb⟩)); have n0_ := Aside0.mk (below_step (by repeat (first | (with_reducible first | exact HB.out | apply below_alloc | apply pw_below_drewN | apply below_drew1) | exact HB.out)) hb); clear HB; have HB := n0_; clear n0_; (try clear hb); (try clear hb2); (try clear hk); (try clear hi)))
          go_ret
          exact ⟨by first | rfl | (simp [errW_none, errW_some] <;> rfl) | (simp [*, errW_none, errW_some] <;> rfl), by repeat (first | (with_reducible first | exact HB.out | apply below_alloc | apply pw_below_drewN | apply below_drew1) | exact HB.out)⟩
      · rw [if_neg c7] at H
        have c7b0 : (a0 == 0) = false := beq_eq_false_iff_ne.mpr c7
        have c7b1 : (a0 != 0) = true := bne_iff_ne.mpr c7
        obtain rfl := Option.some.inj H
        go_enter Try.func4, Try.ntmps4
        go_wp2_with (first | ((first | ((with_reducible refine gate_callee (f := 27) rfl ?_); refine goesL_ (some 13) rfl rfl Try.func27 (by kernel_rfl) rfl #[.int .i64 (wrap64 (a0)), .int .i64 (wrap64 ((wrap64 (a1)) + 1))] rfl (by (try simp only [List.map_toArray, List.map_cons, List.map_nil]); first | done | rfl | (simp only [List.length_drop, List.length_take]; rfl)) ?_; (with_reducible refine (word_Ceil.calls (wrap64 (a0)) (wrap64 ((wrap64 (a1)) + 1)) t119 _ A3.out).mono ?_); rintro e w' ⟨rfl, ⟨nd, rfl⟩⟩; refine ⟨_, rfl, ?_⟩) | (go_at_call 27; (with_reducible refine (word_Ceil.calls (wrap64 (a0)) (wrap64 ((wrap64 (a1)) + 1)) t119 _ A3.out).mono ?_); rintro e w' ⟨rfl, ⟨nd, rfl⟩⟩))) | ((first | ((with_reducible refine gate_callee (f := 26) rfl ?_); refine goesL_ (some 14) rfl rfl Try.func26 (by kernel_rfl) rfl #[] rfl (by (try simp only [List.map_toArray, List.map_cons, List.map_nil]); first | done | rfl | (simp only [List.length_drop, List.length_take]; rfl)) ?_; (with_reducible refine (scullerlaw01_known.calls k  true _ A4.out).mono ?_); rintro e w11 ⟨rfl, hb⟩; refine ⟨_, rfl, ?_⟩) | (go_at_call 26; (with_reducible refine (scullerlaw01_known.calls k  true _ A4.out).mono ?_); rintro e w11 ⟨rfl, hb⟩)); have n0_ := Aside0.mk (below_step (by repeat (first | (with_reducible first | exact HB.out | apply below_alloc | apply pw_below_drewN | apply below_drew1) | exact HB.out)) hb); clear HB; have HB := n0_; clear n0_; (try clear hb); (try clear hb2); (try clear hk); (try clear hi)))
        go_ret
        exact ⟨by first | rfl | (simp [errW_none, errW_some] <;> rfl) | (simp [*, errW_none, errW_some] <;> rfl), by repeat (first | (with_reducible first | exact HB.out | apply below_alloc | apply pw_below_drewN | apply below_drew1) | exact HB.out)⟩
    · rw [if_neg c6] at H
      have c6b0 : decide ((wrap64 (a0)) ≤ (wrap64 (t119 * (wrap64 ((wrap64 (a1)) + 1))))) = false := decide_eq_false c6
      clear c6
      obtain rfl := Option.some.inj H
      go_enter Try.func4, Try.ntmps4
      go_wp2_with (first | ((first | ((with_reducible refine gate_callee (f := 27) rfl ?_); refine goesL_ (some 13) rfl rfl Try.func27 (by kernel_rfl) rfl #[.int .i64 (wrap64 (a0)), .int .i64 (wrap64 ((wrap64 (a1)) + 1))] rfl (by (try simp only [List.map_toArray, List.map_cons, List.map_nil]); first | done | rfl | (simp only [List.length_drop, List.length_take]; rfl)) ?_; (with_reducible refine (word_Ceil.calls (wrap64 (a0)) (wrap64 ((wrap64 (a1)) + 1)) t119 _ A3.out).mono ?_); rintro e w' ⟨rfl, ⟨nd, rfl⟩⟩; refine ⟨_, rfl, ?_⟩) | (go_at_call 27; (with_reducible refine (word_Ceil.calls (wrap64 (a0)) (wrap64 ((wrap64 (a1)) + 1)) t119 _ A3.out).mono ?_); rintro e w' ⟨rfl, ⟨nd, rfl⟩⟩))) | ((first | ((with_reducible refine gate_callee (f := 26) rfl ?_); refine goesL_ (some 14) rfl rfl Try.func26 (by kernel_rfl) rfl #[] rfl (by (try simp only [List.map_toArray, List.map_cons, List.map_nil]); first | done | rfl | (simp only [List.length_drop, List.length_take]; rfl)) ?_; (with_reducible refine (scullerlaw01_known.calls k  true _ A4.out).mono ?_); rintro e w12 ⟨rfl, hb⟩; refine ⟨_, rfl, ?_⟩) | (go_at_call 26; (with_reducible refine (scullerlaw01_known.calls k  true _ A4.out).mono ?_); rintro e w12 ⟨rfl, hb⟩)); have n0_ := Aside0.mk (below_step (by repeat (first | (with_reducible first | exact HB.out | apply below_alloc | apply pw_below_drewN | apply below_drew1) | exact HB.out)) hb); clear HB; have HB := n0_; clear n0_; (try clear hb); (try clear hb2); (try clear hk); (try clear hi)))
      go_ret
      exact ⟨by first | rfl | (simp [errW_none, errW_some] <;> rfl) | (simp [*, errW_none, errW_some] <;> rfl), by repeat (first | (with_reducible first | exact HB.out | apply below_alloc | apply pw_below_drewN | apply below_drew1) | exact HB.out)⟩
  · replace c5 := Bool.eq_false_iff.mpr c5
    subst c5
    have H1 : (some false) = some r := by rw [if_neg (show ¬ (false = true) by decide)] at H; exact H
    clear H
    have H := H1
    clear H1
    obtain rfl := Option.some.inj H
    go_enter Try.func4, Try.ntmps4
    go_wp2_with (first | ((first | ((with_reducible refine gate_callee (f := 27) rfl ?_); refine goesL_ (some 13) rfl rfl Try.func27 (by kernel_rfl) rfl #[.int .i64 (wrap64 (a0)), .int .i64 (wrap64 ((wrap64 (a1)) + 1))] rfl (by (try simp only [List.map_toArray, List.map_cons, List.map_nil]); first | done | rfl | (simp only [List.length_drop, List.length_take]; rfl)) ?_; (with_reducible refine (word_Ceil.calls (wrap64 (a0)) (wrap64 ((wrap64 (a1)) + 1)) t119 _ A3.out).mono ?_); rintro e w' ⟨rfl, ⟨nd, rfl⟩⟩; refine ⟨_, rfl, ?_⟩) | (go_at_call 27; (with_reducible refine (word_Ceil.calls (wrap64 (a0)) (wrap64 ((wrap64 (a1)) + 1)) t119 _ A3.out).mono ?_); rintro e w' ⟨rfl, ⟨nd, rfl⟩⟩))) | ((first | ((with_reducible refine gate_callee (f := 26) rfl ?_); refine goesL_ (some 14) rfl rfl Try.func26 (by kernel_rfl) rfl #[] rfl (by (try simp only [List.map_toArray, List.map_cons, List.map_nil]); first | done | rfl | (simp only [List.length_drop, List.length_take]; rfl)) ?_; (with_reducible refine (scullerlaw01_known.calls k  false _ A4.out).mono ?_); rintro e w13 ⟨rfl, hb⟩; refine ⟨_, rfl, ?_⟩) | (go_at_call 26; (with_reducible refine (scullerlaw01_known.calls k  false _ A4.out).mono ?_); rintro e w13 ⟨rfl, hb⟩)); have n0_ := Aside0.mk (below_step (by repeat (first | (with_reducible first | exact HB.out | apply below_alloc | apply pw_below_drewN | apply below_drew1) | exact HB.out)) hb); clear HB; have HB := n0_; clear n0_; (try clear hb); (try clear hb2); (try clear hk); (try clear hi)))
    go_ret
    exact ⟨by first | rfl | (simp [errW_none, errW_some] <;> rfl) | (simp [*, errW_none, errW_some] <;> rfl), by repeat (first | (with_reducible first | exact HB.out | apply below_alloc | apply pw_below_drewN | apply below_drew1) | exact HB.out)⟩

/-- THE ONE PURE STATEMENT of scullerlaw01_WordCeils: yours. -/
def scullerlaw01_WordCeils.Pure : Prop := ∀ (a0 : Int) (a1 : Int), (Lit.int .u32 a0).wf = true → (Lit.int .u16 a1).wf = true → ∃ k, scullerlaw01_WordCeils.f k a0 a1 = some true
theorem scullerlaw01_WordCeils.walk (P : scullerlaw01_WordCeils.Pure) (a0 : Int) (a1 : Int) (w : World) (w0 : (Lit.int .u32 a0).wf = true) (w1 : (Lit.int .u16 a1).wf = true) :
    Calls Try.prog 4 #[.int .u32 a0, .int .u16 a1] w fun e w' => e = .returned (.bool true) ∧ Below w.heap.size w w' := by
  obtain ⟨k, h⟩ := P a0 a1 w0 w1
  refine (scullerlaw01_WordCeils.calls k a0 a1 true w h).mono ?_
  rintro e w' ⟨rfl, hd⟩
  exact ⟨rfl, hd⟩

/-! ### word_Mul: function 32 -/
def word_Mul.f (a0 : Int) (a1 : Int) (a2 : Int) : Option (Int × Bool) := if (mn (mn a0 a1) a2) < 0 then (some (0, false)) else (if a0 > 0 then (if a0 = 0 then (none) else (if a1 > (wrap64 (Int.tdiv a2 a0)) then (some (0, false)) else (some (wrap64 (a0 * a1), true)))) else (some (wrap64 (a0 * a1), true)))
set_option maxHeartbeats 8000000 in
set_option maxRecDepth 100000 in
theorem word_Mul.calls (a0 : Int) (a1 : Int) (a2 : Int) (r1 : Int) (r2 : Bool) (w : World) (h : word_Mul.f a0 a1 a2 = some (r1, r2)) :
    Calls Try.prog 32 #[.int .i64 a0, .int .i64 a1, .int .i64 a2] w fun e w' => e = .returned (.tuple #[.int .i64 r1, .bool r2]) ∧ Below w.heap.size w w' := by
  have HB := Aside0.mk (Below.refl w.heap.size w)
  have H : (if (mn (mn a0 a1) a2) < 0 then (some (0, false)) else (if a0 > 0 then (if a0 = 0 then (none) else (if a1 > (wrap64 (Int.tdiv a2 a0)) then (some (0, false)) else (some (wrap64 (a0 * a1), true)))) else (some (wrap64 (a0 * a1), true)))) = some (r1, r2) := h
  clear h
  obtain ⟨ji4, hji4⟩ : ∃ j_ : Int, (mn a0 a1) = j_ := ⟨_, rfl⟩
  replace H : (if (mn (ji4) a2) < 0 then (some (0, false)) else (if a0 > 0 then (if a0 = 0 then (none) else (if a1 > (wrap64 (Int.tdiv a2 a0)) then (some (0, false)) else (some (wrap64 (a0 * a1), true)))) else (some (wrap64 (a0 * a1), true)))) = some (r1, r2) := by first | (rw [hji4] at H; exact H) | (simp only [hji4] at H ⊢; exact H)
  have hji4_ : (if a1 < a0 then a1 else a0) = ji4 := hji4
  obtain ⟨ji5, hji5⟩ : ∃ j_ : Int, (mn (ji4) a2) = j_ := ⟨_, rfl⟩
  replace H : (if (ji5) < 0 then (some (0, false)) else (if a0 > 0 then (if a0 = 0 then (none) else (if a1 > (wrap64 (Int.tdiv a2 a0)) then (some (0, false)) else (some (wrap64 (a0 * a1), true)))) else (some (wrap64 (a0 * a1), true)))) = some (r1, r2) := by first | (rw [hji5] at H; exact H) | (simp only [hji5] at H ⊢; exact H)
  have hji5_ : (if a2 < (ji4) then a2 else (ji4)) = ji5 := hji5
  by_cases c6 : (ji5) < 0
  · rw [if_pos c6] at H
    have c6b0 : decide ((ji5) < 0) = true := decide_eq_true c6
    clear c6
    simp only [Option.some.injEq, Prod.mk.injEq] at H
    obtain ⟨rfl, rfl⟩ := H
    go_enter Try.func32, Try.ntmps32
    go_wp2
    go_ret2
    exact ⟨by first | rfl | (simp [errW_none, errW_some] <;> rfl) | (simp only [← hji4, ← hji5]; first | rfl | (simp [errW_none, errW_some] <;> rfl)) | (simp [*, errW_none, errW_some] <;> rfl), by repeat (first | (with_reducible first | exact HB.out | apply below_alloc | apply pw_below_drewN | apply below_drew1) | exact HB.out)⟩
  · rw [if_neg c6] at H
    have c6b0 : decide ((ji5) < 0) = false := decide_eq_false c6
    clear c6
    by_cases c7 : a0 > 0
    · rw [if_pos c7] at H
      have c7b0 : decide (0 < a0) = true := decide_eq_true c7
      clear c7
      by_cases c8 : a0 = 0
      · rw [if_pos c8] at H
        exact absurd H (by simp)
      · rw [if_neg c8] at H
        have c8b0 : (a0 == 0) = false := beq_eq_false_iff_ne.mpr c8
        have c8b1 : (a0 != 0) = true := bne_iff_ne.mpr c8
        by_cases c9 : a1 > (wrap64 (Int.tdiv a2 a0))
        · rw [if_pos c9] at H
          have c9b0 : decide ((wrap64 (Int.tdiv a2 a0)) < a1) = true := decide_eq_true c9
          clear c9
          simp only [Option.some.injEq, Prod.mk.injEq] at H
          obtain ⟨rfl, rfl⟩ := H
          go_enter Try.func32, Try.ntmps32
          go_wp2
          go_ret2
          exact ⟨by first | rfl | (simp [errW_none, errW_some] <;> rfl) | (simp only [← hji4, ← hji5]; first | rfl | (simp [errW_none, errW_some] <;> rfl)) | (simp [*, errW_none, errW_some] <;> rfl), by repeat (first | (with_reducible first | exact HB.out | apply below_alloc | apply pw_below_drewN | apply below_drew1) | exact HB.out)⟩
        · rw [if_neg c9] at H
          have c9b0 : decide ((wrap64 (Int.tdiv a2 a0)) < a1) = false := decide_eq_false c9
          clear c9
          simp only [Option.some.injEq, Prod.mk.injEq] at H
          obtain ⟨rfl, rfl⟩ := H
          go_enter Try.func32, Try.ntmps32
          go_wp2
          go_ret2
          exact ⟨by first | rfl | (simp [errW_none, errW_some] <;> rfl) | (simp only [← hji4, ← hji5]; first | rfl | (simp [errW_none, errW_some] <;> rfl)) | (simp [*, errW_none, errW_some] <;> rfl), by repeat (first | (with_reducible first | exact HB.out | apply below_alloc | apply pw_below_drewN | apply below_drew1) | exact HB.out)⟩
    · rw [if_neg c7] at H
      have c7b0 : decide (0 < a0) = false := decide_eq_false c7
      clear c7
      simp only [Option.some.injEq, Prod.mk.injEq] at H
      obtain ⟨rfl, rfl⟩ := H
      go_enter Try.func32, Try.ntmps32
      go_wp2
      go_ret2
      exact ⟨by first | rfl | (simp [errW_none, errW_some] <;> rfl) | (simp only [← hji4, ← hji5]; first | rfl | (simp [errW_none, errW_some] <;> rfl)) | (simp [*, errW_none, errW_some] <;> rfl), by repeat (first | (with_reducible first | exact HB.out | apply below_alloc | apply pw_below_drewN | apply below_drew1) | exact HB.out)⟩

/-! ### scullerlaw01_WordBounds: function 6 -/
def scullerlaw01_WordBounds.f (k : Nat) (a0 : Int) (a1 : Int) (a2 : Int) : Option (Bool) := (word_Add.f (wrap64 (a0)) (wrap64 (Int.tmod a1 65536)) (wrap64 (a2))).bind fun bt121 => ((word_Mul.f (wrap64 (a0)) (wrap64 (Int.tmod a1 65536)) (wrap64 (a2))).bind fun bt123 => ((scullerlaw01_known.f k).bind fun t125 => (if t125 = true then (if (bt121.2 == (decide ((wrap64 ((wrap64 (a0)) + (wrap64 (Int.tmod a1 65536)))) ≤ (wrap64 (a2))))) = true then (if bt121.2 = true then (if bt121.1 = (wrap64 ((wrap64 (a0)) + (wrap64 (Int.tmod a1 65536)))) then (if (bt123.2 == (decide ((wrap64 ((wrap64 (a0)) * (wrap64 (Int.tmod a1 65536)))) ≤ (wrap64 (a2))))) = true then (if bt123.2 = true then (if bt123.1 = (wrap64 ((wrap64 (a0)) * (wrap64 (Int.tmod a1 65536)))) then (some true) else (some false)) else (some (bt123.1 == 0))) else (some false)) else (some false)) else (if bt121.1 = 0 then (if (bt123.2 == (decide ((wrap64 ((wrap64 (a0)) * (wrap64 (Int.tmod a1 65536)))) ≤ (wrap64 (a2))))) = true then (if bt123.2 = true then (if bt123.1 = (wrap64 ((wrap64 (a0)) * (wrap64 (Int.tmod a1 65536)))) then (some true) else (some false)) else (some (bt123.1 == 0))) else (some false)) else (some false))) else (some false)) else (some false))))
theorem scullerlaw01_WordBounds.mono : ∀ a0 a1 a2 k, LeO (scullerlaw01_WordBounds.f k a0 a1 a2) (scullerlaw01_WordBounds.f (k + 1) a0 a1 a2) := by
  intro a0 a1 a2 k
  unfold scullerlaw01_WordBounds.f
  repeat' first
      | (with_reducible exact scullerlaw01_known.mono _)
      | (with_reducible exact LeO.refl _)
      | (with_reducible exact LeO.none _)
      | (with_reducible refine LeO.ite ?_ ?_)
      | (with_reducible refine LeO.bind ?_ (fun _ => ?_))
      | exact scullerlaw01_known.mono _
      | exact LeO.none _
      | refine LeO.ite ?_ ?_
      | refine LeO.bind ?_ (fun _ => ?_)
set_option maxHeartbeats 8000000 in
set_option maxRecDepth 100000 in
theorem scullerlaw01_WordBounds.calls (k : Nat) (a0 : Int) (a1 : Int) (a2 : Int) (r : Bool) (w : World) (h : scullerlaw01_WordBounds.f k a0 a1 a2 = some r) :
    Calls Try.prog 6 #[.int .u32 a0, .int .u32 a1, .int .u32 a2] w fun e w' => e = .returned (.bool r) ∧ Below w.heap.size w w' := by
  have HB := Aside0.mk (Below.refl w.heap.size w)
  have H : ((word_Add.f (wrap64 (a0)) (wrap64 (Int.tmod a1 65536)) (wrap64 (a2))).bind fun bt121 => ((word_Mul.f (wrap64 (a0)) (wrap64 (Int.tmod a1 65536)) (wrap64 (a2))).bind fun bt123 => ((scullerlaw01_known.f k).bind fun t125 => (if t125 = true then (if (bt121.2 == (decide ((wrap64 ((wrap64 (a0)) + (wrap64 (Int.tmod a1 65536)))) ≤ (wrap64 (a2))))) = true then (if bt121.2 = true then (if bt121.1 = (wrap64 ((wrap64 (a0)) + (wrap64 (Int.tmod a1 65536)))) then (if (bt123.2 == (decide ((wrap64 ((wrap64 (a0)) * (wrap64 (Int.tmod a1 65536)))) ≤ (wrap64 (a2))))) = true then (if bt123.2 = true then (if bt123.1 = (wrap64 ((wrap64 (a0)) * (wrap64 (Int.tmod a1 65536)))) then (some true) else (some false)) else (some (bt123.1 == 0))) else (some false)) else (some false)) else (if bt121.1 = 0 then (if (bt123.2 == (decide ((wrap64 ((wrap64 (a0)) * (wrap64 (Int.tmod a1 65536)))) ≤ (wrap64 (a2))))) = true then (if bt123.2 = true then (if bt123.1 = (wrap64 ((wrap64 (a0)) * (wrap64 (Int.tmod a1 65536)))) then (some true) else (some false)) else (some (bt123.1 == 0))) else (some false)) else (some false))) else (some false)) else (some false))))) = some r := h
  clear h
  replace H := Option.bind_eq_some_iff.mp H
  obtain ⟨⟨t121, t122⟩, A40, H⟩ := H
  replace H : ((word_Mul.f (wrap64 (a0)) (wrap64 (Int.tmod a1 65536)) (wrap64 (a2))).bind fun bt123 => ((scullerlaw01_known.f k).bind fun t125 => (if t125 = true then (if (t122 == (decide ((wrap64 ((wrap64 (a0)) + (wrap64 (Int.tmod a1 65536)))) ≤ (wrap64 (a2))))) = true then (if t122 = true then (if t121 = (wrap64 ((wrap64 (a0)) + (wrap64 (Int.tmod a1 65536)))) then (if (bt123.2 == (decide ((wrap64 ((wrap64 (a0)) * (wrap64 (Int.tmod a1 65536)))) ≤ (wrap64 (a2))))) = true then (if bt123.2 = true then (if bt123.1 = (wrap64 ((wrap64 (a0)) * (wrap64 (Int.tmod a1 65536)))) then (some true) else (some false)) else (some (bt123.1 == 0))) else (some false)) else (some false)) else (if t121 = 0 then (if (bt123.2 == (decide ((wrap64 ((wrap64 (a0)) * (wrap64 (Int.tmod a1 65536)))) ≤ (wrap64 (a2))))) = true then (if bt123.2 = true then (if bt123.1 = (wrap64 ((wrap64 (a0)) * (wrap64 (Int.tmod a1 65536)))) then (some true) else (some false)) else (some (bt123.1 == 0))) else (some false)) else (some false))) else (some false)) else (some false)))) = some r := H
  have A4 := Aside0.mk A40
  clear A40
  replace H := Option.bind_eq_some_iff.mp H
  obtain ⟨⟨t123, t124⟩, A50, H⟩ := H
  replace H : ((scullerlaw01_known.f k).bind fun t125 => (if t125 = true then (if (t122 == (decide ((wrap64 ((wrap64 (a0)) + (wrap64 (Int.tmod a1 65536)))) ≤ (wrap64 (a2))))) = true then (if t122 = true then (if t121 = (wrap64 ((wrap64 (a0)) + (wrap64 (Int.tmod a1 65536)))) then (if (t124 == (decide ((wrap64 ((wrap64 (a0)) * (wrap64 (Int.tmod a1 65536)))) ≤ (wrap64 (a2))))) = true then (if t124 = true then (if t123 = (wrap64 ((wrap64 (a0)) * (wrap64 (Int.tmod a1 65536)))) then (some true) else (some false)) else (some (t123 == 0))) else (some false)) else (some false)) else (if t121 = 0 then (if (t124 == (decide ((wrap64 ((wrap64 (a0)) * (wrap64 (Int.tmod a1 65536)))) ≤ (wrap64 (a2))))) = true then (if t124 = true then (if t123 = (wrap64 ((wrap64 (a0)) * (wrap64 (Int.tmod a1 65536)))) then (some true) else (some false)) else (some (t123 == 0))) else (some false)) else (some false))) else (some false)) else (some false))) = some r := H
  have A5 := Aside0.mk A50
  clear A50
  replace H := Option.bind_eq_some_iff.mp H
  obtain ⟨t125, A60, H⟩ := H
  replace H : (if t125 = true then (if (t122 == (decide ((wrap64 ((wrap64 (a0)) + (wrap64 (Int.tmod a1 65536)))) ≤ (wrap64 (a2))))) = true then (if t122 = true then (if t121 = (wrap64 ((wrap64 (a0)) + (wrap64 (Int.tmod a1 65536)))) then (if (t124 == (decide ((wrap64 ((wrap64 (a0)) * (wrap64 (Int.tmod a1 65536)))) ≤ (wrap64 (a2))))) = true then (if t124 = true then (if t123 = (wrap64 ((wrap64 (a0)) * (wrap64 (Int.tmod a1 65536)))) then (some true) else (some false)) else (some (t123 == 0))) else (some false)) else (some false)) else (if t121 = 0 then (if (t124 == (decide ((wrap64 ((wrap64 (a0)) * (wrap64 (Int.tmod a1 65536)))) ≤ (wrap64 (a2))))) = true then (if t124 = true then (if t123 = (wrap64 ((wrap64 (a0)) * (wrap64 (Int.tmod a1 65536)))) then (some true) else (some false)) else (some (t123 == 0))) else (some false)) else (some false))) else (some false)) else (some false)) = some r := H
  have A6 := Aside0.mk A60
  clear A60
  by_cases c7 : t125 = true
  · subst c7
    have H1 : (if (t122 == (decide ((wrap64 ((wrap64 (a0)) + (wrap64 (Int.tmod a1 65536)))) ≤ (wrap64 (a2))))) = true then (if t122 = true then (if t121 = (wrap64 ((wrap64 (a0)) + (wrap64 (Int.tmod a1 65536)))) then (if (t124 == (decide ((wrap64 ((wrap64 (a0)) * (wrap64 (Int.tmod a1 65536)))) ≤ (wrap64 (a2))))) = true then (if t124 = true then (if t123 = (wrap64 ((wrap64 (a0)) * (wrap64 (Int.tmod a1 65536)))) then (some true) else (some false)) else (some (t123 == 0))) else (some false)) else (some false)) else (if t121 = 0 then (if (t124 == (decide ((wrap64 ((wrap64 (a0)) * (wrap64 (Int.tmod a1 65536)))) ≤ (wrap64 (a2))))) = true then (if t124 = true then (if t123 = (wrap64 ((wrap64 (a0)) * (wrap64 (Int.tmod a1 65536)))) then (some true) else (some false)) else (some (t123 == 0))) else (some false)) else (some false))) else (some false)) = some r := by rw [if_pos rfl] at H; exact H
    clear H
    have H := H1
    clear H1
    by_cases c8 : (t122 == (decide ((wrap64 ((wrap64 (a0)) + (wrap64 (Int.tmod a1 65536)))) ≤ (wrap64 (a2))))) = true
    · rw [if_pos c8] at H
      have c8b0 : (t122 == (decide ((wrap64 ((wrap64 (a0)) + (wrap64 (Int.tmod a1 65536)))) ≤ (wrap64 (a2))))) = true := c8
      (try (have c8b1 : decide (t122 = (decide ((wrap64 ((wrap64 (a0)) + (wrap64 (Int.tmod a1 65536)))) ≤ (wrap64 (a2))))) = true := by simpa using c8))
      (try (have c8b2 : (t122 == (decide ((wrap64 ((wrap64 (a0)) + (wrap64 (Int.tmod a1 65536)))) ≤ (wrap64 (a2))))) = true := by simpa using c8))
      clear c8
      by_cases c9 : t122 = true
      · subst c9
        have H1 : (if t121 = (wrap64 ((wrap64 (a0)) + (wrap64 (Int.tmod a1 65536)))) then (if (t124 == (decide ((wrap64 ((wrap64 (a0)) * (wrap64 (Int.tmod a1 65536)))) ≤ (wrap64 (a2))))) = true then (if t124 = true then (if t123 = (wrap64 ((wrap64 (a0)) * (wrap64 (Int.tmod a1 65536)))) then (some true) else (some false)) else (some (t123 == 0))) else (some false)) else (some false)) = some r := by rw [if_pos rfl] at H; exact H
        clear H
        have H := H1
        clear H1
        by_cases c10 : t121 = (wrap64 ((wrap64 (a0)) + (wrap64 (Int.tmod a1 65536))))
        · rw [if_pos c10] at H
          have c10b0 : (t121 == (wrap64 ((wrap64 (a0)) + (wrap64 (Int.tmod a1 65536))))) = true := beq_iff_eq.mpr c10
          have c10b1 : (t121 != (wrap64 ((wrap64 (a0)) + (wrap64 (Int.tmod a1 65536))))) = false := bne_eq_false_iff_eq.mpr c10
          clear c10
          by_cases c11 : (t124 == (decide ((wrap64 ((wrap64 (a0)) * (wrap64 (Int.tmod a1 65536)))) ≤ (wrap64 (a2))))) = true
          · rw [if_pos c11] at H
            have c11b0 : (t124 == (decide ((wrap64 ((wrap64 (a0)) * (wrap64 (Int.tmod a1 65536)))) ≤ (wrap64 (a2))))) = true := c11
            (try (have c11b1 : decide (t124 = (decide ((wrap64 ((wrap64 (a0)) * (wrap64 (Int.tmod a1 65536)))) ≤ (wrap64 (a2))))) = true := by simpa using c11))
            (try (have c11b2 : (t124 == (decide ((wrap64 ((wrap64 (a0)) * (wrap64 (Int.tmod a1 65536)))) ≤ (wrap64 (a2))))) = true := by simpa using c11))
            clear c11
            by_cases c12 : t124 = true
            · subst c12
              have H1 : (if t123 = (wrap64 ((wrap64 (a0)) * (wrap64 (Int.tmod a1 65536)))) then (some true) else (some false)) = some r := by rw [if_pos rfl] at H; exact H
              clear H
              have H := H1
              clear H1
              by_cases c13 : t123 = (wrap64 ((wrap64 (a0)) * (wrap64 (Int.tmod a1 65536))))
              · rw [if_pos c13] at H
                have c13b0 : (t123 == (wrap64 ((wrap64 (a0)) * (wrap64 (Int.tmod a1 65536))))) = true := beq_iff_eq.mpr c13
                have c13b1 : (t123 != (wrap64 ((wrap64 (a0)) * (wrap64 (Int.tmod a1 65536))))) = false := bne_eq_false_iff_eq.mpr c13
                clear c13
                obtain rfl := Option.some.inj H
                go_enter Try.func6, Try.ntmps6
                go_wp2_with (first | ((first | ((with_reducible refine gate_callee (f := 31) rfl ?_); refine goesL_ (some 23) rfl rfl Try.func31 (by kernel_rfl) rfl #[.int .i64 (wrap64 (a0)), .int .i64 (wrap64 (Int.tmod a1 65536)), .int .i64 (wrap64 (a2))] rfl (by (try simp only [List.map_toArray, List.map_cons, List.map_nil]); first | done | rfl | (simp only [List.length_drop, List.length_take]; rfl)) ?_; (with_reducible refine (word_Add.calls (wrap64 (a0)) (wrap64 (Int.tmod a1 65536)) (wrap64 (a2)) t121 true _ A4.out).mono ?_); rintro e w14 ⟨rfl, hb⟩; refine ⟨_, rfl, ?_⟩) | (go_at_call 31; (with_reducible refine (word_Add.calls (wrap64 (a0)) (wrap64 (Int.tmod a1 65536)) (wrap64 (a2)) t121 true _ A4.out).mono ?_); rintro e w14 ⟨rfl, hb⟩)); have n0_ := Aside0.mk (below_step (by repeat (first | (with_reducible first | exact HB.out | apply below_alloc | apply pw_below_drewN | apply below_drew1) | exact HB.out)) hb); clear HB; have HB := n0_; clear n0_; (try clear hb); (try clear hb2); (try clear hk); (try clear hi)) | ((first | ((with_reducible refine gate_callee (f := 32) rfl ?_); refine goesL_ (some 31) rfl rfl Try.func32 (by kernel_rfl) rfl #[.int .i64 (wrap64 (a0)), .int .i64 (wrap64 (Int.tmod a1 65536)), .int .i64 (wrap64 (a2))] rfl (by (try simp only [List.map_toArray, List.map_cons, List.map_nil]); first | done | rfl | (simp only [List.length_drop, List.length_take]; rfl)) ?_; (with_reducible refine (word_Mul.calls (wrap64 (a0)) (wrap64 (Int.tmod a1 65536)) (wrap64 (a2)) t123 true _ A5.out).mono ?_); rintro e w15 ⟨rfl, hb⟩; refine ⟨_, rfl, ?_⟩) | (go_at_call 32; (with_reducible refine (word_Mul.calls (wrap64 (a0)) (wrap64 (Int.tmod a1 65536)) (wrap64 (a2)) t123 true _ A5.out).mono ?_); rintro e w15 ⟨rfl, hb⟩)); have n0_ := Aside0.mk (below_step (by repeat (first | (with_reducible first | exact HB.out | apply below_alloc | apply pw_below_drewN | apply below_drew1) | exact HB.out)) hb); clear HB; have HB := n0_; clear n0_; (try clear hb); (try clear hb2); (try clear hk); (try clear hi)) | ((first | ((with_reducible refine gate_callee (f := 26) rfl ?_); refine goesL_ (some 34) rfl rfl Try.func26 (by kernel_rfl) rfl #[] rfl (by (try simp only [List.map_toArray, List.map_cons, List.map_nil]); first | done | rfl | (simp only [List.length_drop, List.length_take]; rfl)) ?_; (with_reducible refine (scullerlaw01_known.calls k  true _ A6.out).mono ?_); rintro e w16 ⟨rfl, hb⟩; refine ⟨_, rfl, ?_⟩) | (go_at_call 26; (with_reducible refine (scullerlaw01_known.calls k  true _ A6.out).mono ?_); rintro e w16 ⟨rfl, hb⟩)); have n0_ := Aside0.mk (below_step (by repeat (first | (with_reducible first | exact HB.out | apply below_alloc | apply pw_below_drewN | apply below_drew1) | exact HB.out)) hb); clear HB; have HB := n0_; clear n0_; (try clear hb); (try clear hb2); (try clear hk); (try clear hi)))
                go_ret
                exact ⟨by first | rfl | (simp [errW_none, errW_some] <;> rfl) | (simp [*, errW_none, errW_some] <;> rfl), by repeat (first | (with_reducible first | exact HB.out | apply below_alloc | apply pw_below_drewN | apply below_drew1) | exact HB.out)⟩
              · rw [if_neg c13] at H
                have c13b0 : (t123 == (wrap64 ((wrap64 (a0)) * (wrap64 (Int.tmod a1 65536))))) = false := beq_eq_false_iff_ne.mpr c13
                have c13b1 : (t123 != (wrap64 ((wrap64 (a0)) * (wrap64 (Int.tmod a1 65536))))) = true := bne_iff_ne.mpr c13
                obtain rfl := Option.some.inj H
                go_enter Try.func6, Try.ntmps6
                go_wp2_with (first | ((first | ((with_reducible refine gate_callee (f := 31) rfl ?_); refine goesL_ (some 23) rfl rfl Try.func31 (by kernel_rfl) rfl #[.int .i64 (wrap64 (a0)), .int .i64 (wrap64 (Int.tmod a1 65536)), .int .i64 (wrap64 (a2))] rfl (by (try simp only [List.map_toArray, List.map_cons, List.map_nil]); first | done | rfl | (simp only [List.length_drop, List.length_take]; rfl)) ?_; (with_reducible refine (word_Add.calls (wrap64 (a0)) (wrap64 (Int.tmod a1 65536)) (wrap64 (a2)) t121 true _ A4.out).mono ?_); rintro e w17 ⟨rfl, hb⟩; refine ⟨_, rfl, ?_⟩) | (go_at_call 31; (with_reducible refine (word_Add.calls (wrap64 (a0)) (wrap64 (Int.tmod a1 65536)) (wrap64 (a2)) t121 true _ A4.out).mono ?_); rintro e w17 ⟨rfl, hb⟩)); have n0_ := Aside0.mk (below_step (by repeat (first | (with_reducible first | exact HB.out | apply below_alloc | apply pw_below_drewN | apply below_drew1) | exact HB.out)) hb); clear HB; have HB := n0_; clear n0_; (try clear hb); (try clear hb2); (try clear hk); (try clear hi)) | ((first | ((with_reducible refine gate_callee (f := 32) rfl ?_); refine goesL_ (some 31) rfl rfl Try.func32 (by kernel_rfl) rfl #[.int .i64 (wrap64 (a0)), .int .i64 (wrap64 (Int.tmod a1 65536)), .int .i64 (wrap64 (a2))] rfl (by (try simp only [List.map_toArray, List.map_cons, List.map_nil]); first | done | rfl | (simp only [List.length_drop, List.length_take]; rfl)) ?_; (with_reducible refine (word_Mul.calls (wrap64 (a0)) (wrap64 (Int.tmod a1 65536)) (wrap64 (a2)) t123 true _ A5.out).mono ?_); rintro e w18 ⟨rfl, hb⟩; refine ⟨_, rfl, ?_⟩) | (go_at_call 32; (with_reducible refine (word_Mul.calls (wrap64 (a0)) (wrap64 (Int.tmod a1 65536)) (wrap64 (a2)) t123 true _ A5.out).mono ?_); rintro e w18 ⟨rfl, hb⟩)); have n0_ := Aside0.mk (below_step (by repeat (first | (with_reducible first | exact HB.out | apply below_alloc | apply pw_below_drewN | apply below_drew1) | exact HB.out)) hb); clear HB; have HB := n0_; clear n0_; (try clear hb); (try clear hb2); (try clear hk); (try clear hi)) | ((first | ((with_reducible refine gate_callee (f := 26) rfl ?_); refine goesL_ (some 34) rfl rfl Try.func26 (by kernel_rfl) rfl #[] rfl (by (try simp only [List.map_toArray, List.map_cons, List.map_nil]); first | done | rfl | (simp only [List.length_drop, List.length_take]; rfl)) ?_; (with_reducible refine (scullerlaw01_known.calls k  true _ A6.out).mono ?_); rintro e w19 ⟨rfl, hb⟩; refine ⟨_, rfl, ?_⟩) | (go_at_call 26; (with_reducible refine (scullerlaw01_known.calls k  true _ A6.out).mono ?_); rintro e w19 ⟨rfl, hb⟩)); have n0_ := Aside0.mk (below_step (by repeat (first | (with_reducible first | exact HB.out | apply below_alloc | apply pw_below_drewN | apply below_drew1) | exact HB.out)) hb); clear HB; have HB := n0_; clear n0_; (try clear hb); (try clear hb2); (try clear hk); (try clear hi)))
                go_ret
                exact ⟨by first | rfl | (simp [errW_none, errW_some] <;> rfl) | (simp [*, errW_none, errW_some] <;> rfl), by repeat (first | (with_reducible first | exact HB.out | apply below_alloc | apply pw_below_drewN | apply below_drew1) | exact HB.out)⟩
            · replace c12 := Bool.eq_false_iff.mpr c12
              subst c12
              have H1 : (some (t123 == 0)) = some r := by rw [if_neg (show ¬ (false = true) by decide)] at H; exact H
              clear H
              have H := H1
              clear H1
              obtain rfl := Option.some.inj H
              go_enter Try.func6, Try.ntmps6
              go_wp2_with (first | ((first | ((with_reducible refine gate_callee (f := 31) rfl ?_); refine goesL_ (some 23) rfl rfl Try.func31 (by kernel_rfl) rfl #[.int .i64 (wrap64 (a0)), .int .i64 (wrap64 (Int.tmod a1 65536)), .int .i64 (wrap64 (a2))] rfl (by (try simp only [List.map_toArray, List.map_cons, List.map_nil]); first | done | rfl | (simp only [List.length_drop, List.length_take]; rfl)) ?_; (with_reducible refine (word_Add.calls (wrap64 (a0)) (wrap64 (Int.tmod a1 65536)) (wrap64 (a2)) t121 true _ A4.out).mono ?_); rintro e w20 ⟨rfl, hb⟩; refine ⟨_, rfl, ?_⟩) | (go_at_call 31; (with_reducible refine (word_Add.calls (wrap64 (a0)) (wrap64 (Int.tmod a1 65536)) (wrap64 (a2)) t121 true _ A4.out).mono ?_); rintro e w20 ⟨rfl, hb⟩)); have n0_ := Aside0.mk (below_step (by repeat (first | (with_reducible first | exact HB.out | apply below_alloc | apply pw_below_drewN | apply below_drew1) | exact HB.out)) hb); clear HB; have HB := n0_; clear n0_; (try clear hb); (try clear hb2); (try clear hk); (try clear hi)) | ((first | ((with_reducible refine gate_callee (f := 32) rfl ?_); refine goesL_ (some 31) rfl rfl Try.func32 (by kernel_rfl) rfl #[.int .i64 (wrap64 (a0)), .int .i64 (wrap64 (Int.tmod a1 65536)), .int .i64 (wrap64 (a2))] rfl (by (try simp only [List.map_toArray, List.map_cons, List.map_nil]); first | done | rfl | (simp only [List.length_drop, List.length_take]; rfl)) ?_; (with_reducible refine (word_Mul.calls (wrap64 (a0)) (wrap64 (Int.tmod a1 65536)) (wrap64 (a2)) t123 false _ A5.out).mono ?_); rintro e w21 ⟨rfl, hb⟩; refine ⟨_, rfl, ?_⟩) | (go_at_call 32; (with_reducible refine (word_Mul.calls (wrap64 (a0)) (wrap64 (Int.tmod a1 65536)) (wrap64 (a2)) t123 false _ A5.out).mono ?_); rintro e w21 ⟨rfl, hb⟩)); have n0_ := Aside0.mk (below_step (by repeat (first | (with_reducible first | exact HB.out | apply below_alloc | apply pw_below_drewN | apply below_drew1) | exact HB.out)) hb); clear HB; have HB := n0_; clear n0_; (try clear hb); (try clear hb2); (try clear hk); (try clear hi)) | ((first | ((with_reducible refine gate_callee (f := 26) rfl ?_); refine goesL_ (some 34) rfl rfl Try.func26 (by kernel_rfl) rfl #[] rfl (by (try simp only [List.map_toArray, List.map_cons, List.map_nil]); first | done | rfl | (simp only [List.length_drop, List.length_take]; rfl)) ?_; (with_reducible refine (scullerlaw01_known.calls k  true _ A6.out).mono ?_); rintro e w22 ⟨rfl, hb⟩; refine ⟨_, rfl, ?_⟩) | (go_at_call 26; (with_reducible refine (scullerlaw01_known.calls k  true _ A6.out).mono ?_); rintro e w22 ⟨rfl, hb⟩)); have n0_ := Aside0.mk (below_step (by repeat (first | (with_reducible first | exact HB.out | apply below_alloc | apply pw_below_drewN | apply below_drew1) | exact HB.out)) hb); clear HB; have HB := n0_; clear n0_; (try clear hb); (try clear hb2); (try clear hk); (try clear hi)))
              go_ret
              exact ⟨by first | rfl | (simp [errW_none, errW_some] <;> rfl) | (simp [*, errW_none, errW_some] <;> rfl), by repeat (first | (with_reducible first | exact HB.out | apply below_alloc | apply pw_below_drewN | apply below_drew1) | exact HB.out)⟩
          · rw [if_neg c11] at H
            have c11b0 : (t124 == (decide ((wrap64 ((wrap64 (a0)) * (wrap64 (Int.tmod a1 65536)))) ≤ (wrap64 (a2))))) = false := by simpa using c11
            (try (have c11b1 : decide (t124 = (decide ((wrap64 ((wrap64 (a0)) * (wrap64 (Int.tmod a1 65536)))) ≤ (wrap64 (a2))))) = false := by simpa using c11))
            (try (have c11b2 : (t124 == (decide ((wrap64 ((wrap64 (a0)) * (wrap64 (Int.tmod a1 65536)))) ≤ (wrap64 (a2))))) = false := by simpa using c11))
            (try (have c11b3 : ¬ (t124 = (decide ((wrap64 ((wrap64 (a0)) * (wrap64 (Int.tmod a1 65536)))) ≤ (wrap64 (a2))))) := by simpa using c11))
            clear c11
            obtain rfl := Option.some.inj H
            go_enter Try.func6, Try.ntmps6
            go_wp2_with (first | ((first | ((with_reducible refine gate_callee (f := 31) rfl ?_); refine goesL_ (some 23) rfl rfl Try.func31 (by kernel_rfl) rfl #[.int .i64 (wrap64 (a0)), .int .i64 (wrap64 (Int.tmod a1 65536)), .int .i64 (wrap64 (a2))] rfl (by (try simp only [List.map_toArray, List.map_cons, List.map_nil]); first | done | rfl | (simp only [List.length_drop, List.length_take]; rfl)) ?_; (with_reducible refine (word_Add.calls (wrap64 (a0)) (wrap64 (Int.tmod a1 65536)) (wrap64 (a2)) t121 true _ A4.out).mono ?_); rintro e w23 ⟨rfl, hb⟩; refine ⟨_, rfl, ?_⟩) | (go_at_call 31; (with_reducible refine (word_Add.calls (wrap64 (a0)) (wrap64 (Int.tmod a1 65536)) (wrap64 (a2)) t121 true _ A4.out).mono ?_); rintro e w23 ⟨rfl, hb⟩)); have n0_ := Aside0.mk (below_step (by repeat (first | (with_reducible first | exact HB.out | apply below_alloc | apply pw_below_drewN | apply below_drew1) | exact HB.out)) hb); clear HB; have HB := n0_; clear n0_; (try clear hb); (try clear hb2); (try clear hk); (try clear hi)) | ((first | ((with_reducible refine gate_callee (f := 32) rfl ?_); refine goesL_ (some 31) rfl rfl Try.func32 (by kernel_rfl) rfl #[.int .i64 (wrap64 (a0)), .int .i64 (wrap64 (Int.tmod a1 65536)), .int .i64 (wrap64 (a2))] rfl (by (try simp only [List.map_toArray, List.map_cons, List.map_nil]); first | done | rfl | (simp only [List.length_drop, List.length_take]; rfl)) ?_; (with_reducible refine (word_Mul.calls (wrap64 (a0)) (wrap64 (Int.tmod a1 65536)) (wrap64 (a2)) t123 t124 _ A5.out).mono ?_); rintro e w24 ⟨rfl, hb⟩; refine ⟨_, rfl, ?_⟩) | (go_at_call 32; (with_reducible refine (word_Mul.calls (wrap64 (a0)) (wrap64 (Int.tmod a1 65536)) (wrap64 (a2)) t123 t124 _ A5.out).mono ?_); rintro e w24 ⟨rfl, hb⟩)); have n0_ := Aside0.mk (below_step (by repeat (first | (with_reducible first | exact HB.out | apply below_alloc | apply pw_below_drewN | apply below_drew1) | exact HB.out)) hb); clear HB; have HB := n0_; clear n0_; (try clear hb); (try clear hb2); (try clear hk); (try clear hi)) | ((first | ((with_reducible refine gate_callee (f := 26) rfl ?_); refine goesL_ (some 34) rfl rfl Try.func26 (by kernel_rfl) rfl #[] rfl (by (try simp only [List.map_toArray, List.map_cons, List.map_nil]); first | done | rfl | (simp only [List.length_drop, List.length_take]; rfl)) ?_; (with_reducible refine (scullerlaw01_known.calls k  true _ A6.out).mono ?_); rintro e w25 ⟨rfl, hb⟩; refine ⟨_, rfl, ?_⟩) | (go_at_call 26; (with_reducible refine (scullerlaw01_known.calls k  true _ A6.out).mono ?_); rintro e w25 ⟨rfl, hb⟩)); have n0_ := Aside0.mk (below_step (by repeat (first | (with_reducible first | exact HB.out | apply below_alloc | apply pw_below_drewN | apply below_drew1) | exact HB.out)) hb); clear HB; have HB := n0_; clear n0_; (try clear hb); (try clear hb2); (try clear hk); (try clear hi)))
            go_ret
            exact ⟨by first | rfl | (simp [errW_none, errW_some] <;> rfl) | (simp [*, errW_none, errW_some] <;> rfl), by repeat (first | (with_reducible first | exact HB.out | apply below_alloc | apply pw_below_drewN | apply below_drew1) | exact HB.out)⟩
        · rw [if_neg c10] at H
          have c10b0 : (t121 == (wrap64 ((wrap64 (a0)) + (wrap64 (Int.tmod a1 65536))))) = false := beq_eq_false_iff_ne.mpr c10
          have c10b1 : (t121 != (wrap64 ((wrap64 (a0)) + (wrap64 (Int.tmod a1 65536))))) = true := bne_iff_ne.mpr c10
          obtain rfl := Option.some.inj H
          go_enter Try.func6, Try.ntmps6
          go_wp2_with (first | ((first | ((with_reducible refine gate_callee (f := 31) rfl ?_); refine goesL_ (some 23) rfl rfl Try.func31 (by kernel_rfl) rfl #[.int .i64 (wrap64 (a0)), .int .i64 (wrap64 (Int.tmod a1 65536)), .int .i64 (wrap64 (a2))] rfl (by (try simp only [List.map_toArray, List.map_cons, List.map_nil]); first | done | rfl | (simp only [List.length_drop, List.length_take]; rfl)) ?_; (with_reducible refine (word_Add.calls (wrap64 (a0)) (wrap64 (Int.tmod a1 65536)) (wrap64 (a2)) t121 true _ A4.out).mono ?_); rintro e w26 ⟨rfl, hb⟩; refine ⟨_, rfl, ?_⟩) | (go_at_call 31; (with_reducible refine (word_Add.calls (wrap64 (a0)) (wrap64 (Int.tmod a1 65536)) (wrap64 (a2)) t121 true _ A4.out).mono ?_); rintro e w26 ⟨rfl, hb⟩)); have n0_ := Aside0.mk (below_step (by repeat (first | (with_reducible first | exact HB.out | apply below_alloc | apply pw_below_drewN | apply below_drew1) | exact HB.out)) hb); clear HB; have HB := n0_; clear n0_; (try clear hb); (try clear hb2); (try clear hk); (try clear hi)) | ((first | ((with_reducible refine gate_callee (f := 32) rfl ?_); refine goesL_ (some 31) rfl rfl Try.func32 (by kernel_rfl) rfl #[.int .i64 (wrap64 (a0)), .int .i64 (wrap64 (Int.tmod a1 65536)), .int .i64 (wrap64 (a2))] rfl (by (try simp only [List.map_toArray, List.map_cons, List.map_nil]); first | done | rfl | (simp only [List.length_drop, List.length_take]; rfl)) ?_; (with_reducible refine (word_Mul.calls (wrap64 (a0)) (wrap64 (Int.tmod a1 65536)) (wrap64 (a2)) t123 t124 _ A5.out).mono ?_); rintro e w27 ⟨rfl, hb⟩; refine ⟨_, rfl, ?_⟩) | (go_at_call 32; (with_reducible refine (word_Mul.calls (wrap64 (a0)) (wrap64 (Int.tmod a1 65536)) (wrap64 (a2)) t123 t124 _ A5.out).mono ?_); rintro e w27 ⟨rfl, hb⟩)); have n0_ := Aside0.mk (below_step (by repeat (first | (with_reducible first | exact HB.out | apply below_alloc | apply pw_below_drewN | apply below_drew1) | exact HB.out)) hb); clear HB; have HB := n0_; clear n0_; (try clear hb); (try clear hb2); (try clear hk); (try clear hi)) | ((first | ((with_reducible refine gate_callee (f := 26) rfl ?_); refine goesL_ (some 34) rfl rfl Try.func26 (by kernel_rfl) rfl #[] rfl (by (try simp only [List.map_toArray, List.map_cons, List.map_nil]); first | done | rfl | (simp only [List.length_drop, List.length_take]; rfl)) ?_; (with_reducible refine (scullerlaw01_known.calls k  true _ A6.out).mono ?_); rintro e w28 ⟨rfl, hb⟩; refine ⟨_, rfl, ?_⟩) | (go_at_call 26; (with_reducible refine (scullerlaw01_known.calls k  true _ A6.out).mono ?_); rintro e w28 ⟨rfl, hb⟩)); have n0_ := Aside0.mk (below_step (by repeat (first | (with_reducible first | exact HB.out | apply below_alloc | apply pw_below_drewN | apply below_drew1) | exact HB.out)) hb); clear HB; have HB := n0_; clear n0_; (try clear hb); (try clear hb2); (try clear hk); (try clear hi)))
          go_ret
          exact ⟨by first | rfl | (simp [errW_none, errW_some] <;> rfl) | (simp [*, errW_none, errW_some] <;> rfl), by repeat (first | (with_reducible first | exact HB.out | apply below_alloc | apply pw_below_drewN | apply below_drew1) | exact HB.out)⟩
      · replace c9 := Bool.eq_false_iff.mpr c9
        subst c9
        have H1 : (if t121 = 0 then (if (t124 == (decide ((wrap64 ((wrap64 (a0)) * (wrap64 (Int.tmod a1 65536)))) ≤ (wrap64 (a2))))) = true then (if t124 = true then (if t123 = (wrap64 ((wrap64 (a0)) * (wrap64 (Int.tmod a1 65536)))) then (some true) else (some false)) else (some (t123 == 0))) else (some false)) else (some false)) = some r := by rw [if_neg (show ¬ (false = true) by decide)] at H; exact H
        clear H
        have H := H1
        clear H1
        by_cases c29 : t121 = 0
        · rw [if_pos c29] at H
          have c29b0 : (t121 == 0) = true := beq_iff_eq.mpr c29
          have c29b1 : (t121 != 0) = false := bne_eq_false_iff_eq.mpr c29
          clear c29
          by_cases c30 : (t124 == (decide ((wrap64 ((wrap64 (a0)) * (wrap64 (Int.tmod a1 65536)))) ≤ (wrap64 (a2))))) = true
          · rw [if_pos c30] at H
            have c30b0 : (t124 == (decide ((wrap64 ((wrap64 (a0)) * (wrap64 (Int.tmod a1 65536)))) ≤ (wrap64 (a2))))) = true := c30
            (try (have c30b1 : decide (t124 = (decide ((wrap64 ((wrap64 (a0)) * (wrap64 (Int.tmod a1 65536)))) ≤ (wrap64 (a2))))) = true := by simpa using c30))
            (try (have c30b2 : (t124 == (decide ((wrap64 ((wrap64 (a0)) * (wrap64 (Int.tmod a1 65536)))) ≤ (wrap64 (a2))))) = true := by simpa using c30))
            clear c30
            by_cases c31 : t124 = true
            · subst c31
              have H1 : (if t123 = (wrap64 ((wrap64 (a0)) * (wrap64 (Int.tmod a1 65536)))) then (some true) else (some false)) = some r := by rw [if_pos rfl] at H; exact H
              clear H
              have H := H1
              clear H1
              by_cases c32 : t123 = (wrap64 ((wrap64 (a0)) * (wrap64 (Int.tmod a1 65536))))
              · rw [if_pos c32] at H
                have c32b0 : (t123 == (wrap64 ((wrap64 (a0)) * (wrap64 (Int.tmod a1 65536))))) = true := beq_iff_eq.mpr c32
                have c32b1 : (t123 != (wrap64 ((wrap64 (a0)) * (wrap64 (Int.tmod a1 65536))))) = false := bne_eq_false_iff_eq.mpr c32
                clear c32
                obtain rfl := Option.some.inj H
                go_enter Try.func6, Try.ntmps6
                go_wp2_with (first | ((first | ((with_reducible refine gate_callee (f := 31) rfl ?_); refine goesL_ (some 23) rfl rfl Try.func31 (by kernel_rfl) rfl #[.int .i64 (wrap64 (a0)), .int .i64 (wrap64 (Int.tmod a1 65536)), .int .i64 (wrap64 (a2))] rfl (by (try simp only [List.map_toArray, List.map_cons, List.map_nil]); first | done | rfl | (simp only [List.length_drop, List.length_take]; rfl)) ?_; (with_reducible refine (word_Add.calls (wrap64 (a0)) (wrap64 (Int.tmod a1 65536)) (wrap64 (a2)) t121 false _ A4.out).mono ?_); rintro e w33 ⟨rfl, hb⟩; refine ⟨_, rfl, ?_⟩) | (go_at_call 31; (with_reducible refine (word_Add.calls (wrap64 (a0)) (wrap64 (Int.tmod a1 65536)) (wrap64 (a2)) t121 false _ A4.out).mono ?_); rintro e w33 ⟨rfl, hb⟩)); have n0_ := Aside0.mk (below_step (by repeat (first | (with_reducible first | exact HB.out | apply below_alloc | apply pw_below_drewN | apply below_drew1) | exact HB.out)) hb); clear HB; have HB := n0_; clear n0_; (try clear hb); (try clear hb2); (try clear hk); (try clear hi)) | ((first | ((with_reducible refine gate_callee (f := 32) rfl ?_); refine goesL_ (some 31) rfl rfl Try.func32 (by kernel_rfl) rfl #[.int .i64 (wrap64 (a0)), .int .i64 (wrap64 (Int.tmod a1 65536)), .int .i64 (wrap64 (a2))] rfl (by (try simp only [List.map_toArray, List.map_cons, List.map_nil]); first | done | rfl | (simp only [List.length_drop, List.length_take]; rfl)) ?_; (with_reducible refine (word_Mul.calls (wrap64 (a0)) (wrap64 (Int.tmod a1 65536)) (wrap64 (a2)) t123 true _ A5.out).mono ?_); rintro e w34 ⟨rfl, hb⟩; refine ⟨_, rfl, ?_⟩) | (go_at_call 32; (with_reducible refine (word_Mul.calls (wrap64 (a0)) (wrap64 (Int.tmod a1 65536)) (wrap64 (a2)) t123 true _ A5.out).mono ?_); rintro e w34 ⟨rfl, hb⟩)); have n0_ := Aside0.mk (below_step (by repeat (first | (with_reducible first | exact HB.out | apply below_alloc | apply pw_below_drewN | apply below_drew1) | exact HB.out)) hb); clear HB; have HB := n0_; clear n0_; (try clear hb); (try clear hb2); (try clear hk); (try clear hi)) | ((first | ((with_reducible refine gate_callee (f := 26) rfl ?_); refine goesL_ (some 34) rfl rfl Try.func26 (by kernel_rfl) rfl #[] rfl (by (try simp only [List.map_toArray, List.map_cons, List.map_nil]); first | done | rfl | (simp only [List.length_drop, List.length_take]; rfl)) ?_; (with_reducible refine (scullerlaw01_known.calls k  true _ A6.out).mono ?_); rintro e w35 ⟨rfl, hb⟩; refine ⟨_, rfl, ?_⟩) | (go_at_call 26; (with_reducible refine (scullerlaw01_known.calls k  true _ A6.out).mono ?_); rintro e w35 ⟨rfl, hb⟩)); have n0_ := Aside0.mk (below_step (by repeat (first | (with_reducible first | exact HB.out | apply below_alloc | apply pw_below_drewN | apply below_drew1) | exact HB.out)) hb); clear HB; have HB := n0_; clear n0_; (try clear hb); (try clear hb2); (try clear hk); (try clear hi)))
                go_ret
                exact ⟨by first | rfl | (simp [errW_none, errW_some] <;> rfl) | (simp [*, errW_none, errW_some] <;> rfl), by repeat (first | (with_reducible first | exact HB.out | apply below_alloc | apply pw_below_drewN | apply below_drew1) | exact HB.out)⟩
              · rw [if_neg c32] at H
                have c32b0 : (t123 == (wrap64 ((wrap64 (a0)) * (wrap64 (Int.tmod a1 65536))))) = false := beq_eq_false_iff_ne.mpr c32
                have c32b1 : (t123 != (wrap64 ((wrap64 (a0)) * (wrap64 (Int.tmod a1 65536))))) = true := bne_iff_ne.mpr c32
                obtain rfl := Option.some.inj H
                go_enter Try.func6, Try.ntmps6
                go_wp2_with (first | ((first | ((with_reducible refine gate_callee (f := 31) rfl ?_); refine goesL_ (some 23) rfl rfl Try.func31 (by kernel_rfl) rfl #[.int .i64 (wrap64 (a0)), .int .i64 (wrap64 (Int.tmod a1 65536)), .int .i64 (wrap64 (a2))] rfl (by (try simp only [List.map_toArray, List.map_cons, List.map_nil]); first | done | rfl | (simp only [List.length_drop, List.length_take]; rfl)) ?_; (with_reducible refine (word_Add.calls (wrap64 (a0)) (wrap64 (Int.tmod a1 65536)) (wrap64 (a2)) t121 false _ A4.out).mono ?_); rintro e w36 ⟨rfl, hb⟩; refine ⟨_, rfl, ?_⟩) | (go_at_call 31; (with_reducible refine (word_Add.calls (wrap64 (a0)) (wrap64 (Int.tmod a1 65536)) (wrap64 (a2)) t121 false _ A4.out).mono ?_); rintro e w36 ⟨rfl, hb⟩)); have n0_ := Aside0.mk (below_step (by repeat (first | (with_reducible first | exact HB.out | apply below_alloc | apply pw_below_drewN | apply below_drew1) | exact HB.out)) hb); clear HB; have HB := n0_; clear n0_; (try clear hb); (try clear hb2); (try clear hk); (try clear hi)) | ((first | ((with_reducible refine gate_callee (f := 32) rfl ?_); refine goesL_ (some 31) rfl rfl Try.func32 (by kernel_rfl) rfl #[.int .i64 (wrap64 (a0)), .int .i64 (wrap64 (Int.tmod a1 65536)), .int .i64 (wrap64 (a2))] rfl (by (try simp only [List.map_toArray, List.map_cons, List.map_nil]); first | done | rfl | (simp only [List.length_drop, List.length_take]; rfl)) ?_; (with_reducible refine (word_Mul.calls (wrap64 (a0)) (wrap64 (Int.tmod a1 65536)) (wrap64 (a2)) t123 true _ A5.out).mono ?_); rintro e w37 ⟨rfl, hb⟩; refine ⟨_, rfl, ?_⟩) | (go_at_call 32; (with_reducible refine (word_Mul.calls (wrap64 (a0)) (wrap64 (Int.tmod a1 65536)) (wrap64 (a2)) t123 true _ A5.out).mono ?_); rintro e w37 ⟨rfl, hb⟩)); have n0_ := Aside0.mk (below_step (by repeat (first | (with_reducible first | exact HB.out | apply below_alloc | apply pw_below_drewN | apply below_drew1) | exact HB.out)) hb); clear HB; have HB := n0_; clear n0_; (try clear hb); (try clear hb2); (try clear hk); (try clear hi)) | ((first | ((with_reducible refine gate_callee (f := 26) rfl ?_); refine goesL_ (some 34) rfl rfl Try.func26 (by kernel_rfl) rfl #[] rfl (by (try simp only [List.map_toArray, List.map_cons, List.map_nil]); first | done | rfl | (simp only [List.length_drop, List.length_take]; rfl)) ?_; (with_reducible refine (scullerlaw01_known.calls k  true _ A6.out).mono ?_); rintro e w38 ⟨rfl, hb⟩; refine ⟨_, rfl, ?_⟩) | (go_at_call 26; (with_reducible refine (scullerlaw01_known.calls k  true _ A6.out).mono ?_); rintro e w38 ⟨rfl, hb⟩)); have n0_ := Aside0.mk (below_step (by repeat (first | (with_reducible first | exact HB.out | apply below_alloc | apply pw_below_drewN | apply below_drew1) | exact HB.out)) hb); clear HB; have HB := n0_; clear n0_; (try clear hb); (try clear hb2); (try clear hk); (try clear hi)))
                go_ret
                exact ⟨by first | rfl | (simp [errW_none, errW_some] <;> rfl) | (simp [*, errW_none, errW_some] <;> rfl), by repeat (first | (with_reducible first | exact HB.out | apply below_alloc | apply pw_below_drewN | apply below_drew1) | exact HB.out)⟩
            · replace c31 := Bool.eq_false_iff.mpr c31
              subst c31
              have H1 : (some (t123 == 0)) = some r := by rw [if_neg (show ¬ (false = true) by decide)] at H; exact H
              clear H
              have H := H1
              clear H1
              obtain rfl := Option.some.inj H
              go_enter Try.func6, Try.ntmps6
              go_wp2_with (first | ((first | ((with_reducible refine gate_callee (f := 31) rfl ?_); refine goesL_ (some 23) rfl rfl Try.func31 (by kernel_rfl) rfl #[.int .i64 (wrap64 (a0)), .int .i64 (wrap64 (Int.tmod a1 65536)), .int .i64 (wrap64 (a2))] rfl (by (try simp only [List.map_toArray, List.map_cons, List.map_nil]); first | done | rfl | (simp only [List.length_drop, List.length_take]; rfl)) ?_; (with_reducible refine (word_Add.calls (wrap64 (a0)) (wrap64 (Int.tmod a1 65536)) (wrap64 (a2)) t121 false _ A4.out).mono ?_); rintro e w39 ⟨rfl, hb⟩; refine ⟨_, rfl, ?_⟩) | (go_at_call 31; (with_reducible refine (word_Add.calls (wrap64 (a0)) (wrap64 (Int.tmod a1 65536)) (wrap64 (a2)) t121 false _ A4.out).mono ?_); rintro e w39 ⟨rfl, hb⟩)); have n0_ := Aside0.mk (below_step (by repeat (first | (with_reducible first | exact HB.out | apply below_alloc | apply pw_below_drewN | apply below_drew1) | exact HB.out)) hb); clear HB; have HB := n0_; clear n0_; (try clear hb); (try clear hb2); (try clear hk); (try clear hi)) | ((first | ((with_reducible refine gate_callee (f := 32) rfl ?_); refine goesL_ (some 31) rfl rfl Try.func32 (by kernel_rfl) rfl #[.int .i64 (wrap64 (a0)), .int .i64 (wrap64 (Int.tmod a1 65536)), .int .i64 (wrap64 (a2))] rfl (by (try simp only [List.map_toArray, List.map_cons, List.map_nil]); first | done | rfl | (simp only [List.length_drop, List.length_take]; rfl)) ?_; (with_reducible refine (word_Mul.calls (wrap64 (a0)) (wrap64 (Int.tmod a1 65536)) (wrap64 (a2)) t123 false _ A5.out).mono ?_); rintro e w40 ⟨rfl, hb⟩; refine ⟨_, rfl, ?_⟩) | (go_at_call 32; (with_reducible refine (word_Mul.calls (wrap64 (a0)) (wrap64 (Int.tmod a1 65536)) (wrap64 (a2)) t123 false _ A5.out).mono ?_); rintro e w40 ⟨rfl, hb⟩)); have n0_ := Aside0.mk (below_step (by repeat (first | (with_reducible first | exact HB.out | apply below_alloc | apply pw_below_drewN | apply below_drew1) | exact HB.out)) hb); clear HB; have HB := n0_; clear n0_; (try clear hb); (try clear hb2); (try clear hk); (try clear hi)) | ((first | ((with_reducible refine gate_callee (f := 26) rfl ?_); refine goesL_ (some 34) rfl rfl Try.func26 (by kernel_rfl) rfl #[] rfl (by (try simp only [List.map_toArray, List.map_cons, List.map_nil]); first | done | rfl | (simp only [List.length_drop, List.length_take]; rfl)) ?_; (with_reducible refine (scullerlaw01_known.calls k  true _ A6.out).mono ?_); rintro e w41 ⟨rfl, hb⟩; refine ⟨_, rfl, ?_⟩) | (go_at_call 26; (with_reducible refine (scullerlaw01_known.calls k  true _ A6.out).mono ?_); rintro e w41 ⟨rfl, hb⟩)); have n0_ := Aside0.mk (below_step (by repeat (first | (with_reducible first | exact HB.out | apply below_alloc | apply pw_below_drewN | apply below_drew1) | exact HB.out)) hb); clear HB; have HB := n0_; clear n0_; (try clear hb); (try clear hb2); (try clear hk); (try clear hi)))
              go_ret
              exact ⟨by first | rfl | (simp [errW_none, errW_some] <;> rfl) | (simp [*, errW_none, errW_some] <;> rfl), by repeat (first | (with_reducible first | exact HB.out | apply below_alloc | apply pw_below_drewN | apply below_drew1) | exact HB.out)⟩
          · rw [if_neg c30] at H
            have c30b0 : (t124 == (decide ((wrap64 ((wrap64 (a0)) * (wrap64 (Int.tmod a1 65536)))) ≤ (wrap64 (a2))))) = false := by simpa using c30
            (try (have c30b1 : decide (t124 = (decide ((wrap64 ((wrap64 (a0)) * (wrap64 (Int.tmod a1 65536)))) ≤ (wrap64 (a2))))) = false := by simpa using c30))
            (try (have c30b2 : (t124 == (decide ((wrap64 ((wrap64 (a0)) * (wrap64 (Int.tmod a1 65536)))) ≤ (wrap64 (a2))))) = false := by simpa using c30))
            (try (have c30b3 : ¬ (t124 = (decide ((wrap64 ((wrap64 (a0)) * (wrap64 (Int.tmod a1 65536)))) ≤ (wrap64 (a2))))) := by simpa using c30))
            clear c30
            obtain rfl := Option.some.inj H
            go_enter Try.func6, Try.ntmps6
            go_wp2_with (first | ((first | ((with_reducible refine gate_callee (f := 31) rfl ?_); refine goesL_ (some 23) rfl rfl Try.func31 (by kernel_rfl) rfl #[.int .i64 (wrap64 (a0)), .int .i64 (wrap64 (Int.tmod a1 65536)), .int .i64 (wrap64 (a2))] rfl (by (try simp only [List.map_toArray, List.map_cons, List.map_nil]); first | done | rfl | (simp only [List.length_drop, List.length_take]; rfl)) ?_; (with_reducible refine (word_Add.calls (wrap64 (a0)) (wrap64 (Int.tmod a1 65536)) (wrap64 (a2)) t121 false _ A4.out).mono ?_); rintro e w42 ⟨rfl, hb⟩; refine ⟨_, rfl, ?_⟩) | (go_at_call 31; (with_reducible refine (word_Add.calls (wrap64 (a0)) (wrap64 (Int.tmod a1 65536)) (wrap64 (a2)) t121 false _ A4.out).mono ?_); rintro e w42 ⟨rfl, hb⟩)); have n0_ := Aside0.mk (below_step (by repeat (first | (with_reducible first | exact HB.out | apply below_alloc | apply pw_below_drewN | apply below_drew1) | exact HB.out)) hb); clear HB; have HB := n0_; clear n0_; (try clear hb); (try clear hb2); (try clear hk); (try clear hi)) | ((first | ((with_reducible refine gate_callee (f := 32) rfl ?_); refine goesL_ (some 31) rfl rfl Try.func32 (by kernel_rfl) rfl #[.int .i64 (wrap64 (a0)), .int .i64 (wrap64 (Int.tmod a1 65536)), .int .i64 (wrap64 (a2))] rfl (by (try simp only [List.map_toArray, List.map_cons, List.map_nil]); first | done | rfl | (simp only [List.length_drop, List.length_take]; rfl)) ?_; (with_reducible refine (word_Mul.calls (wrap64 (a0)) (wrap64 (Int.tmod a1 65536)) (wrap64 (a2)) t123 t124 _ A5.out).mono ?_); rintro e w43 ⟨rfl, hb⟩; refine ⟨_, rfl, ?_⟩) | (go_at_call 32; (with_reducible refine (word_Mul.calls (wrap64 (a0)) (wrap64 (Int.tmod a1 65536)) (wrap64 (a2)) t123 t124 _ A5.out).mono ?_); rintro e w43 ⟨rfl, hb⟩)); have n0_ := Aside0.mk (below_step (by repeat (first | (with_reducible first | exact HB.out | apply below_alloc | apply pw_below_drewN | apply below_drew1) | exact HB.out)) hb); clear HB; have HB := n0_; clear n0_; (try clear hb); (try clear hb2); (try clear hk); (try clear hi)) | ((first | ((with_reducible refine gate_callee (f := 26) rfl ?_); refine goesL_ (some 34) rfl rfl Try.func26 (by kernel_rfl) rfl #[] rfl (by (try simp only [List.map_toArray, List.map_cons, List.map_nil]); first | done | rfl | (simp only [List.length_drop, List.length_take]; rfl)) ?_; (with_reducible refine (scullerlaw01_known.calls k  true _ A6.out).mono ?_); rintro e w44 ⟨rfl, hb⟩; refine ⟨_, rfl, ?_⟩) | (go_at_call 26; (with_reducible refine (scullerlaw01_known.calls k  true _ A6.out).mono ?_); rintro e w44 ⟨rfl, hb⟩)); have n0_ := Aside0.mk (below_step (by repeat (first | (with_reducible first | exact HB.out | apply below_alloc | apply pw_below_drewN | apply below_drew1) | exact HB.out)) hb); clear HB; have HB := n0_; clear n0_; (try clear hb); (try clear hb2); (try clear hk); (try clear hi)))
            go_ret
            exact ⟨by first | rfl | (simp [errW_none, errW_some] <;> rfl) | (simp [*, errW_none, errW_some] <;> rfl), by repeat (first | (with_reducible first | exact HB.out | apply below_alloc | apply pw_below_drewN | apply below_drew1) | exact HB.out)⟩
        · rw [if_neg c29] at H
          have c29b0 : (t121 == 0) = false := beq_eq_false_iff_ne.mpr c29
          have c29b1 : (t121 != 0) = true := bne_iff_ne.mpr c29
          obtain rfl := Option.some.inj H
          go_enter Try.func6, Try.ntmps6
          go_wp2_with (first | ((first | ((with_reducible refine gate_callee (f := 31) rfl ?_); refine goesL_ (some 23) rfl rfl Try.func31 (by kernel_rfl) rfl #[.int .i64 (wrap64 (a0)), .int .i64 (wrap64 (Int.tmod a1 65536)), .int .i64 (wrap64 (a2))] rfl (by (try simp only [List.map_toArray, List.map_cons, List.map_nil]); first | done | rfl | (simp only [List.length_drop, List.length_take]; rfl)) ?_; (with_reducible refine (word_Add.calls (wrap64 (a0)) (wrap64 (Int.tmod a1 65536)) (wrap64 (a2)) t121 false _ A4.out).mono ?_); rintro e w45 ⟨rfl, hb⟩; refine ⟨_, rfl, ?_⟩) | (go_at_call 31; (with_reducible refine (word_Add.calls (wrap64 (a0)) (wrap64 (Int.tmod a1 65536)) (wrap64 (a2)) t121 false _ A4.out).mono ?_); rintro e w45 ⟨rfl, hb⟩)); have n0_ := Aside0.mk (below_step (by repeat (first | (with_reducible first | exact HB.out | apply below_alloc | apply pw_below_drewN | apply below_drew1) | exact HB.out)) hb); clear HB; have HB := n0_; clear n0_; (try clear hb); (try clear hb2); (try clear hk); (try clear hi)) | ((first | ((with_reducible refine gate_callee (f := 32) rfl ?_); refine goesL_ (some 31) rfl rfl Try.func32 (by kernel_rfl) rfl #[.int .i64 (wrap64 (a0)), .int .i64 (wrap64 (Int.tmod a1 65536)), .int .i64 (wrap64 (a2))] rfl (by (try simp only [List.map_toArray, List.map_cons, List.map_nil]); first | done | rfl | (simp only [List.length_drop, List.length_take]; rfl)) ?_; (with_reducible refine (word_Mul.calls (wrap64 (a0)) (wrap64 (Int.tmod a1 65536)) (wrap64 (a2)) t123 t124 _ A5.out).mono ?_); rintro e w46 ⟨rfl, hb⟩; refine ⟨_, rfl, ?_⟩) | (go_at_call 32; (with_reducible refine (word_Mul.calls (wrap64 (a0)) (wrap64 (Int.tmod a1 65536)) (wrap64 (a2)) t123 t124 _ A5.out).mono ?_); rintro e w46 ⟨rfl, hb⟩)); have n0_ := Aside0.mk (below_step (by repeat (first | (with_reducible first | exact HB.out | apply below_alloc | apply pw_below_drewN | apply below_drew1) | exact HB.out)) hb); clear HB; have HB := n0_; clear n0_; (try clear hb); (try clear hb2); (try clear hk); (try clear hi)) | ((first | ((with_reducible refine gate_callee (f := 26) rfl ?_); refine goesL_ (some 34) rfl rfl Try.func26 (by kernel_rfl) rfl #[] rfl (by (try simp only [List.map_toArray, List.map_cons, List.map_nil]); first | done | rfl | (simp only [List.length_drop, List.length_take]; rfl)) ?_; (with_reducible refine (scullerlaw01_known.calls k  true _ A6.out).mono ?_); rintro e w47 ⟨rfl, hb⟩; refine ⟨_, rfl, ?_⟩) | (go_at_call 26; (with_reducible refine (scullerlaw01_known.calls k  true _ A6.out).mono ?_); rintro e w47 ⟨rfl, hb⟩)); have n0_ := Aside0.mk (below_step (by repeat (first | (with_reducible first | exact HB.out | apply below_alloc | apply pw_below_drewN | apply below_drew1) | exact HB.out)) hb); clear HB; have HB := n0_; clear n0_; (try clear hb); (try clear hb2); (try clear hk); (try clear hi)))
          go_ret
          exact ⟨by first | rfl | (simp [errW_none, errW_some] <;> rfl) | (simp [*, errW_none, errW_some] <;> rfl), by repeat (first | (with_reducible first | exact HB.out | apply below_alloc | apply pw_below_drewN | apply below_drew1) | exact HB.out)⟩
    · rw [if_neg c8] at H
      have c8b0 : (t122 == (decide ((wrap64 ((wrap64 (a0)) + (wrap64 (Int.tmod a1 65536)))) ≤ (wrap64 (a2))))) = false := by simpa using c8
      (try (have c8b1 : decide (t122 = (decide ((wrap64 ((wrap64 (a0)) + (wrap64 (Int.tmod a1 65536)))) ≤ (wrap64 (a2))))) = false := by simpa using c8))
      (try (have c8b2 : (t122 == (decide ((wrap64 ((wrap64 (a0)) + (wrap64 (Int.tmod a1 65536)))) ≤ (wrap64 (a2))))) = false := by simpa using c8))
      (try (have c8b3 : ¬ (t122 = (decide ((wrap64 ((wrap64 (a0)) + (wrap64 (Int.tmod a1 65536)))) ≤ (wrap64 (a2))))) := by simpa using c8))
      clear c8
      obtain rfl := Option.some.inj H
      go_enter Try.func6, Try.ntmps6
      go_wp2_with (first | ((first | ((with_reducible refine gate_callee (f := 31) rfl ?_); refine goesL_ (some 23) rfl rfl Try.func31 (by kernel_rfl) rfl #[.int .i64 (wrap64 (a0)), .int .i64 (wrap64 (Int.tmod a1 65536)), .int .i64 (wrap64 (a2))] rfl (by (try simp only [List.map_toArray, List.map_cons, List.map_nil]); first | done | rfl | (simp only [List.length_drop, List.length_take]; rfl)) ?_; (with_reducible refine (word_Add.calls (wrap64 (a0)) (wrap64 (Int.tmod a1 65536)) (wrap64 (a2)) t121 t122 _ A4.out).mono ?_); rintro e w48 ⟨rfl, hb⟩; refine ⟨_, rfl, ?_⟩) | (go_at_call 31; (with_reducible refine (word_Add.calls (wrap64 (a0)) (wrap64 (Int.tmod a1 65536)) (wrap64 (a2)) t121 t122 _ A4.out).mono ?_); rintro e w48 ⟨rfl, hb⟩)); have n0_ := Aside0.mk (below_step (by repeat (first | (with_reducible first | exact HB.out | apply below_alloc | apply pw_below_drewN | apply below_drew1) | exact HB.out)) hb); clear HB; have HB := n0_; clear n0_; (try clear hb); (try clear hb2); (try clear hk); (try clear hi)) | ((first | ((with_reducible refine gate_callee (f := 32) rfl ?_); refine goesL_ (some 31) rfl rfl Try.func32 (by kernel_rfl) rfl #[.int .i64 (wrap64 (a0)), .int .i64 (wrap64 (Int.tmod a1 65536)), .int .i64 (wrap64 (a2))] rfl (by (try simp only [List.map_toArray, List.map_cons, List.map_nil]); first | done | rfl | (simp only [List.length_drop, List.length_take]; rfl)) ?_; (with_reducible refine (word_Mul.calls (wrap64 (a0)) (wrap64 (Int.tmod a1 65536)) (wrap64 (a2)) t123 t124 _ A5.out).mono ?_); rintro e w49 ⟨rfl, hb⟩; refine ⟨_, rfl, ?_⟩) | (go_at_call 32; (with_reducible refine (word_Mul.calls (wrap64 (a0)) (wrap64 (Int.tmod a1 65536)) (wrap64 (a2)) t123 t124 _ A5.out).mono ?_); rintro e w49 ⟨rfl, hb⟩)); have n0_ := Aside0.mk (below_step (by repeat (first | (with_reducible first | exact HB.out | apply below_alloc | apply pw_below_drewN | apply below_drew1) | exact HB.out)) hb); clear HB; have HB := n0_; clear n0_; (try clear hb); (try clear hb2); (try clear hk); (try clear hi)) | ((first | ((with_reducible refine gate_callee (f := 26) rfl ?_); refine goesL_ (some 34) rfl rfl Try.func26 (by kernel_rfl) rfl #[] rfl (by (try simp only [List.map_toArray, List.map_cons, List.map_nil]); first | done | rfl | (simp only [List.length_drop, List.length_take]; rfl)) ?_; (with_reducible refine (scullerlaw01_known.calls k  true _ A6.out).mono ?_); rintro e w50 ⟨rfl, hb⟩; refine ⟨_, rfl, ?_⟩) | (go_at_call 26; (with_reducible refine (scullerlaw01_known.calls k  true _ A6.out).mono ?_); rintro e w50 ⟨rfl, hb⟩)); have n0_ := Aside0.mk (below_step (by repeat (first | (with_reducible first | exact HB.out | apply below_alloc | apply pw_below_drewN | apply below_drew1) | exact HB.out)) hb); clear HB; have HB := n0_; clear n0_; (try clear hb); (try clear hb2); (try clear hk); (try clear hi)))
      go_ret
      exact ⟨by first | rfl | (simp [errW_none, errW_some] <;> rfl) | (simp [*, errW_none, errW_some] <;> rfl), by repeat (first | (with_reducible first | exact HB.out | apply below_alloc | apply pw_below_drewN | apply below_drew1) | exact HB.out)⟩
  · replace c7 := Bool.eq_false_iff.mpr c7
    subst c7
    have H1 : (some false) = some r := by rw [if_neg (show ¬ (false = true) by decide)] at H; exact H
    clear H
    have H := H1
    clear H1
    obtain rfl := Option.some.inj H
    go_enter Try.func6, Try.ntmps6
    go_wp2_with (first | ((first | ((with_reducible refine gate_callee (f := 31) rfl ?_); refine goesL_ (some 23) rfl rfl Try.func31 (by kernel_rfl) rfl #[.int .i64 (wrap64 (a0)), .int .i64 (wrap64 (Int.tmod a1 65536)), .int .i64 (wrap64 (a2))] rfl (by (try simp only [List.map_toArray, List.map_cons, List.map_nil]); first | done | rfl | (simp only [List.length_drop, List.length_take]; rfl)) ?_; (with_reducible refine (word_Add.calls (wrap64 (a0)) (wrap64 (Int.tmod a1 65536)) (wrap64 (a2)) t121 t122 _ A4.out).mono ?_); rintro e w51 ⟨rfl, hb⟩; refine ⟨_, rfl, ?_⟩) | (go_at_call 31; (with_reducible refine (word_Add.calls (wrap64 (a0)) (wrap64 (Int.tmod a1 65536)) (wrap64 (a2)) t121 t122 _ A4.out).mono ?_); rintro e w51 ⟨rfl, hb⟩)); have n0_ := Aside0.mk (below_step (by repeat (first | (with_reducible first | exact HB.out | apply below_alloc | apply pw_below_drewN | apply below_drew1) | exact HB.out)) hb); clear HB; have HB := n0_; clear n0_; (try clear hb); (try clear hb2); (try clear hk); (try clear hi)) | ((first | ((with_reducible refine gate_callee (f := 32) rfl ?_); refine goesL_ (some 31) rfl rfl Try.func32 (by kernel_rfl) rfl #[.int .i64 (wrap64 (a0)), .int .i64 (wrap64 (Int.tmod a1 65536)), .int .i64 (wrap64 (a2))] rfl (by (try simp only [List.map_toArray, List.map_cons, List.map_nil]); first | done | rfl | (simp only [List.length_drop, List.length_take]; rfl)) ?_; (with_reducible refine (word_Mul.calls (wrap64 (a0)) (wrap64 (Int.tmod a1 65536)) (wrap64 (a2)) t123 t124 _ A5.out).mono ?_); rintro e w52 ⟨rfl, hb⟩; refine ⟨_, rfl, ?_⟩) | (go_at_call 32; (with_reducible refine (word_Mul.calls (wrap64 (a0)) (wrap64 (Int.tmod a1 65536)) (wrap64 (a2)) t123 t124 _ A5.out).mono ?_); rintro e w52 ⟨rfl, hb⟩)); have n0_ := Aside0.mk (below_step (by repeat (first | (with_reducible first | exact HB.out | apply below_alloc | apply pw_below_drewN | apply below_drew1) | exact HB.out)) hb); clear HB; have HB := n0_; clear n0_; (try clear hb); (try clear hb2); (try clear hk); (try clear hi)) | ((first | ((with_reducible refine gate_callee (f := 26) rfl ?_); refine goesL_ (some 34) rfl rfl Try.func26 (by kernel_rfl) rfl #[] rfl (by (try simp only [List.map_toArray, List.map_cons, List.map_nil]); first | done | rfl | (simp only [List.length_drop, List.length_take]; rfl)) ?_; (with_reducible refine (scullerlaw01_known.calls k  false _ A6.out).mono ?_); rintro e w53 ⟨rfl, hb⟩; refine ⟨_, rfl, ?_⟩) | (go_at_call 26; (with_reducible refine (scullerlaw01_known.calls k  false _ A6.out).mono ?_); rintro e w53 ⟨rfl, hb⟩)); have n0_ := Aside0.mk (below_step (by repeat (first | (with_reducible first | exact HB.out | apply below_alloc | apply pw_below_drewN | apply below_drew1) | exact HB.out)) hb); clear HB; have HB := n0_; clear n0_; (try clear hb); (try clear hb2); (try clear hk); (try clear hi)))
    go_ret
    exact ⟨by first | rfl | (simp [errW_none, errW_some] <;> rfl) | (simp [*, errW_none, errW_some] <;> rfl), by repeat (first | (with_reducible first | exact HB.out | apply below_alloc | apply pw_below_drewN | apply below_drew1) | exact HB.out)⟩

/-- THE ONE PURE STATEMENT of scullerlaw01_WordBounds: yours. -/
def scullerlaw01_WordBounds.Pure : Prop := ∀ (a0 : Int) (a1 : Int) (a2 : Int), (Lit.int .u32 a0).wf = true → (Lit.int .u32 a1).wf = true → (Lit.int .u32 a2).wf = true → ∃ k, scullerlaw01_WordBounds.f k a0 a1 a2 = some true
theorem scullerlaw01_WordBounds.walk (P : scullerlaw01_WordBounds.Pure) (a0 : Int) (a1 : Int) (a2 : Int) (w : World) (w0 : (Lit.int .u32 a0).wf = true) (w1 : (Lit.int .u32 a1).wf = true) (w2 : (Lit.int .u32 a2).wf = true) :
    Calls Try.prog 6 #[.int .u32 a0, .int .u32 a1, .int .u32 a2] w fun e w' => e = .returned (.bool true) ∧ Below w.heap.size w w' := by
  obtain ⟨k, h⟩ := P a0 a1 a2 w0 w1 w2
  refine (scullerlaw01_WordBounds.calls k a0 a1 a2 true w h).mono ?_
  rintro e w' ⟨rfl, hd⟩
  exact ⟨rfl, hd⟩

end Go.Proofs.Ytbaokbfmancjlaa.S
