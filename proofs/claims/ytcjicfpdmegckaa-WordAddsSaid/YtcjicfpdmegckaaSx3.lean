/- Written by a program of this repo (wip/tools/gprint.py): what functions of the Go program compute, the proofs that they do, and the rows of statements. Conditions: those in each theorem. -/
import Derived.Test.YtcjicfpdmegckaaSx0
import Derived.Test.YtcjicfpdmegckaaSx1
import Derived.Test.YtcjicfpdmegckaaSx2
import Derived.Test.YtcjicfpdmegckaaWFar
namespace Go.Proofs.Ytcjicfpdmegckaa.S
open Go.RowKit Go.Proofs.YtcjicfpdmegckaaW.PrintWords Go.Proofs.YtcjicfpdmegckaaW.PrintLast Go.Proofs.YtcjicfpdmegckaaW.PrintMore
attribute [local go_sem] max2_int min2_int max_two min_two max_three min_three max_four min_four   -- for this text's walks alone
set_option linter.unusedVariables false
set_option linter.unusedSimpArgs false

/-! ### scullerref01_Signed: function 40 -/
def scullerref01_Signed.l0 : Nat → Int → Int → Int → Int → Option (Int)
  | 0, _, _, _, _ => none
  | k + 1, x0, x1, x5, x6 => if x6 < x1 then (scullerref01_Signed.l0 k x0 x1 (wrap64 (2 * x5)) (wrap64 (x6 + 1))) else (if (IntKind.u64.wrap (2 * (IntKind.u64.wrap (x5)))) = 0 then (none) else (if (wrap64 (Int.tmod x0 (IntKind.u64.wrap (2 * (IntKind.u64.wrap (x5)))))) ≥ x5 then (some (wrap64 ((wrap64 ((wrap64 (Int.tmod x0 (IntKind.u64.wrap (2 * (IntKind.u64.wrap (x5)))))) - x5)) - x5))) else (some (wrap64 (Int.tmod x0 (IntKind.u64.wrap (2 * (IntKind.u64.wrap (x5)))))))))
def scullerref01_Signed.f (k : Nat) (a0 : Int) (a1 : Int) : Option (Int) := scullerref01_Signed.l0 k a0 (mx 1 (mn a1 63)) 1 1
set_option maxHeartbeats 8000000 in
set_option maxRecDepth 100000 in
theorem scullerref01_Signed.calls (k : Nat) (a0 : Int) (a1 : Int) (r : Int) (w : World) (h : scullerref01_Signed.f k a0 a1 = some r) :
    Calls Try.prog 40 #[.int .u64 a0, .int .i64 a1] w fun e w' => e = .returned (.int .i64 r) ∧ Below w.heap.size w w' := by
  have HB := Aside0.mk (Below.refl w.heap.size w)
  have H : (scullerref01_Signed.l0 k a0 (mx 1 (mn a1 63)) 1 1) = some r := h
  clear h
  obtain ⟨ji3, hji3⟩ : ∃ j_ : Int, (mn a1 63) = j_ := ⟨_, rfl⟩
  replace H : (scullerref01_Signed.l0 k a0 (mx 1 (ji3)) 1 1) = some r := by first | (rw [hji3] at H; exact H) | (simp only [hji3] at H ⊢; exact H)
  (try (have hji3h : ji3 ≤ 63 := by (rw [← hji3]; unfold mn; (repeat' split) <;> omega)))
  (try (have hji3g : ji3 ≤ 64 := by omega))
  have hji3_ : (if 63 < a1 then 63 else a1) = ji3 := hji3
  obtain ⟨ji4, hji4⟩ : ∃ j_ : Int, (mx 1 (ji3)) = j_ := ⟨_, rfl⟩
  replace H : (scullerref01_Signed.l0 k a0 ji4 1 1) = some r := by first | (rw [hji4] at H; exact H) | (simp only [hji4] at H ⊢; exact H)
  have hji4_ : (if 1 < (ji3) then (ji3) else 1) = ji4 := hji4
  have H' := Aside0.mk H
  clear H
  go_enter Try.func40, Try.ntmps40
  go_wp2
  go_loopg [5, 6] k (fun kq v5 v6 w' => ∃ (x5_1 : Int) (x6_1 : Int), v5 = .int .i64 x5_1 ∧ v6 = .int .i64 x6_1 ∧ Aside0 (scullerref01_Signed.l0 kq a0 ji4 x5_1 x6_1 = some r) ∧ Aside0 (kq ≤ k) ∧ Aside0 (Below w.heap.size w w'))
  case atStart => exact ⟨(1), (1), (by first | rfl | (simp; done) | (simp [*]; done)), (by first | rfl | (simp; done) | (simp [*]; done)), H', ⟨Nat.le_refl _⟩, ⟨by repeat (first | (with_reducible first | exact HB.out | apply below_alloc | apply pw_below_drewN | apply below_drew1) | exact HB.out)⟩⟩
  case round =>
    clear H'; (try clear p2); (try clear c4)
    obtain ⟨x5_1, x6_1, rfl, rfl, HA, HK1, HB⟩ := hrel
    cases gk with
    | zero => exact absurd HA.out (by simp [scullerref01_Signed.l0])
    | succ k1 =>
      have H := HA.out
      clear HA
      simp only [scullerref01_Signed.l0] at H
      by_cases c5 : x6_1 < ji4
      · rw [if_pos c5] at H
        have c5b0 : decide (x6_1 < ji4) = true := decide_eq_true c5
        clear c5
        have H' := Aside0.mk H
        clear H
        go_wp2
        go_roundg k1
        case measure => have := HK1.out; omega
        case rel => exact ⟨(wrap64 (2 * x5_1)), (wrap64 (x6_1 + 1)), (by first | rfl | (simp; done) | (simp [*]; done)), (by first | rfl | (simp; done) | (simp [*]; done)), H', ⟨by have := HK1.out; omega⟩, ⟨by repeat (first | (with_reducible first | exact HB.out | apply below_alloc | apply pw_below_drewN | apply below_drew1) | exact HB.out)⟩⟩
      · rw [if_neg c5] at H
        have c5b0 : decide (x6_1 < ji4) = false := decide_eq_false c5
        clear c5
        by_cases c6 : (IntKind.u64.wrap (2 * (IntKind.u64.wrap (x5_1)))) = 0
        · rw [if_pos c6] at H
          exact absurd H (by simp)
        · rw [if_neg c6] at H
          have c6b0 : ((IntKind.u64.wrap (2 * (IntKind.u64.wrap (x5_1)))) == 0) = false := beq_eq_false_iff_ne.mpr c6
          have c6b1 : ((IntKind.u64.wrap (2 * (IntKind.u64.wrap (x5_1)))) != 0) = true := bne_iff_ne.mpr c6
          by_cases c7 : (wrap64 (Int.tmod a0 (IntKind.u64.wrap (2 * (IntKind.u64.wrap (x5_1)))))) ≥ x5_1
          · rw [if_pos c7] at H
            have c7b0 : decide (x5_1 ≤ (wrap64 (Int.tmod a0 (IntKind.u64.wrap (2 * (IntKind.u64.wrap (x5_1))))))) = true := decide_eq_true c7
            clear c7
            obtain rfl := Option.some.inj H
            go_wp2
            go_ret
            exact ⟨by first | rfl | (simp [errW_none, errW_some] <;> rfl) | (simp only [← hji3, ← hji4]; first | rfl | (simp [errW_none, errW_some] <;> rfl)) | (simp [*, errW_none, errW_some] <;> rfl), by repeat (first | (with_reducible first | exact HB.out | apply below_alloc | apply pw_below_drewN | apply below_drew1) | exact HB.out)⟩
          · rw [if_neg c7] at H
            have c7b0 : decide (x5_1 ≤ (wrap64 (Int.tmod a0 (IntKind.u64.wrap (2 * (IntKind.u64.wrap (x5_1))))))) = false := decide_eq_false c7
            clear c7
            obtain rfl := Option.some.inj H
            go_wp2
            go_ret
            exact ⟨by first | rfl | (simp [errW_none, errW_some] <;> rfl) | (simp only [← hji3, ← hji4]; first | rfl | (simp [errW_none, errW_some] <;> rfl)) | (simp [*, errW_none, errW_some] <;> rfl), by repeat (first | (with_reducible first | exact HB.out | apply below_alloc | apply pw_below_drewN | apply below_drew1) | exact HB.out)⟩

/-! ### scullerlaw01_WordAdds: function 3 -/
def scullerlaw01_WordAdds.f (k : Nat) (a0 : Int) (a1 : Int) (a2 : Int) (a3 : Int) (a4 : Int) (a5 : Int) : Option (Bool) := (scullerlaw01_known.f k).bind fun t124 => (if t124 = true then ((scullerlaw01_adds.f a0 a1 a2).bind fun t125 => (if t125 = true then (if 0 ≤ (Int.tmod a5 64) then ((scullerlaw01_adds.f (shr .i64 a0 (Int.tmod a5 64)) (shr .i64 a1 (Int.tmod a5 64)) (shr .i64 a2 ((Int.tdiv (Int.tmod a5 64) 2) % 256))).bind fun t126 => (if t126 = true then ((word_Ceil.f a0 a1).bind fun t127 => ((scullerref01_Ceil.f k a0 a1).bind fun t128 => (if t127 = t128 then ((word_Ceil.f (shr .i64 a0 (Int.tmod a5 64)) (shr .i64 a1 (Int.tmod a5 64))).bind fun t129 => ((scullerref01_Ceil.f k (shr .i64 a0 (Int.tmod a5 64)) (shr .i64 a1 (Int.tmod a5 64))).bind fun t130 => (if t129 = t130 then ((word_Signed.f a3 a4).bind fun t131 => ((scullerref01_Signed.f k a3 a4).bind fun t132 => (if t131 = t132 then ((word_Signed.f a3 (wrap64 ((wrap64 (Int.tmod a5 70)) - 3))).bind fun t133 => ((scullerref01_Signed.f k a3 (wrap64 ((wrap64 (Int.tmod a5 70)) - 3))).bind fun t134 => (some (t133 == t134)))) else (some false)))) else (some false)))) else (some false)))) else (some false))) else (none)) else (some false))) else (some false))
set_option maxHeartbeats 8000000 in
set_option maxRecDepth 100000 in
theorem scullerlaw01_WordAdds.calls (k : Nat) (a0 : Int) (a1 : Int) (a2 : Int) (a3 : Int) (a4 : Int) (a5 : Int) (r : Bool) (w : World) (h : scullerlaw01_WordAdds.f k a0 a1 a2 a3 a4 a5 = some r) (hr_ : r = true) :
    Calls Try.prog 3 #[.int .i64 a0, .int .i64 a1, .int .i64 a2, .int .u64 a3, .int .i64 a4, .int .u8 a5] w fun e w' => e = .returned (.bool r) ∧ Below w.heap.size w w' := by
  have HRT_ := Aside0.mk hr_
  clear hr_
  have HB := Aside0.mk (Below.refl w.heap.size w)
  have H : ((scullerlaw01_known.f k).bind fun t124 => (if t124 = true then ((scullerlaw01_adds.f a0 a1 a2).bind fun t125 => (if t125 = true then (if 0 ≤ (Int.tmod a5 64) then ((scullerlaw01_adds.f (shr .i64 a0 (Int.tmod a5 64)) (shr .i64 a1 (Int.tmod a5 64)) (shr .i64 a2 ((Int.tdiv (Int.tmod a5 64) 2) % 256))).bind fun t126 => (if t126 = true then ((word_Ceil.f a0 a1).bind fun t127 => ((scullerref01_Ceil.f k a0 a1).bind fun t128 => (if t127 = t128 then ((word_Ceil.f (shr .i64 a0 (Int.tmod a5 64)) (shr .i64 a1 (Int.tmod a5 64))).bind fun t129 => ((scullerref01_Ceil.f k (shr .i64 a0 (Int.tmod a5 64)) (shr .i64 a1 (Int.tmod a5 64))).bind fun t130 => (if t129 = t130 then ((word_Signed.f a3 a4).bind fun t131 => ((scullerref01_Signed.f k a3 a4).bind fun t132 => (if t131 = t132 then ((word_Signed.f a3 (wrap64 ((wrap64 (Int.tmod a5 70)) - 3))).bind fun t133 => ((scullerref01_Signed.f k a3 (wrap64 ((wrap64 (Int.tmod a5 70)) - 3))).bind fun t134 => (some (t133 == t134)))) else (some false)))) else (some false)))) else (some false)))) else (some false))) else (none)) else (some false))) else (some false))) = some r := h
  clear h
  replace H := Option.bind_eq_some_iff.mp H
  obtain ⟨t124, A70, H⟩ := H
  replace H : (if t124 = true then ((scullerlaw01_adds.f a0 a1 a2).bind fun t125 => (if t125 = true then (if 0 ≤ (Int.tmod a5 64) then ((scullerlaw01_adds.f (shr .i64 a0 (Int.tmod a5 64)) (shr .i64 a1 (Int.tmod a5 64)) (shr .i64 a2 ((Int.tdiv (Int.tmod a5 64) 2) % 256))).bind fun t126 => (if t126 = true then ((word_Ceil.f a0 a1).bind fun t127 => ((scullerref01_Ceil.f k a0 a1).bind fun t128 => (if t127 = t128 then ((word_Ceil.f (shr .i64 a0 (Int.tmod a5 64)) (shr .i64 a1 (Int.tmod a5 64))).bind fun t129 => ((scullerref01_Ceil.f k (shr .i64 a0 (Int.tmod a5 64)) (shr .i64 a1 (Int.tmod a5 64))).bind fun t130 => (if t129 = t130 then ((word_Signed.f a3 a4).bind fun t131 => ((scullerref01_Signed.f k a3 a4).bind fun t132 => (if t131 = t132 then ((word_Signed.f a3 (wrap64 ((wrap64 (Int.tmod a5 70)) - 3))).bind fun t133 => ((scullerref01_Signed.f k a3 (wrap64 ((wrap64 (Int.tmod a5 70)) - 3))).bind fun t134 => (some (t133 == t134)))) else (some false)))) else (some false)))) else (some false)))) else (some false))) else (none)) else (some false))) else (some false)) = some r := H
  have A7 := Aside0.mk A70
  clear A70
  by_cases c8 : t124 = true
  · subst c8
    have H1 : ((scullerlaw01_adds.f a0 a1 a2).bind fun t125 => (if t125 = true then (if 0 ≤ (Int.tmod a5 64) then ((scullerlaw01_adds.f (shr .i64 a0 (Int.tmod a5 64)) (shr .i64 a1 (Int.tmod a5 64)) (shr .i64 a2 ((Int.tdiv (Int.tmod a5 64) 2) % 256))).bind fun t126 => (if t126 = true then ((word_Ceil.f a0 a1).bind fun t127 => ((scullerref01_Ceil.f k a0 a1).bind fun t128 => (if t127 = t128 then ((word_Ceil.f (shr .i64 a0 (Int.tmod a5 64)) (shr .i64 a1 (Int.tmod a5 64))).bind fun t129 => ((scullerref01_Ceil.f k (shr .i64 a0 (Int.tmod a5 64)) (shr .i64 a1 (Int.tmod a5 64))).bind fun t130 => (if t129 = t130 then ((word_Signed.f a3 a4).bind fun t131 => ((scullerref01_Signed.f k a3 a4).bind fun t132 => (if t131 = t132 then ((word_Signed.f a3 (wrap64 ((wrap64 (Int.tmod a5 70)) - 3))).bind fun t133 => ((scullerref01_Signed.f k a3 (wrap64 ((wrap64 (Int.tmod a5 70)) - 3))).bind fun t134 => (some (t133 == t134)))) else (some false)))) else (some false)))) else (some false)))) else (some false))) else (none)) else (some false))) = some r := by rw [if_pos rfl] at H; exact H
    clear H
    have H := H1
    clear H1
    replace H := Option.bind_eq_some_iff.mp H
    obtain ⟨t125, A90, H⟩ := H
    replace H : (if t125 = true then (if 0 ≤ (Int.tmod a5 64) then ((scullerlaw01_adds.f (shr .i64 a0 (Int.tmod a5 64)) (shr .i64 a1 (Int.tmod a5 64)) (shr .i64 a2 ((Int.tdiv (Int.tmod a5 64) 2) % 256))).bind fun t126 => (if t126 = true then ((word_Ceil.f a0 a1).bind fun t127 => ((scullerref01_Ceil.f k a0 a1).bind fun t128 => (if t127 = t128 then ((word_Ceil.f (shr .i64 a0 (Int.tmod a5 64)) (shr .i64 a1 (Int.tmod a5 64))).bind fun t129 => ((scullerref01_Ceil.f k (shr .i64 a0 (Int.tmod a5 64)) (shr .i64 a1 (Int.tmod a5 64))).bind fun t130 => (if t129 = t130 then ((word_Signed.f a3 a4).bind fun t131 => ((scullerref01_Signed.f k a3 a4).bind fun t132 => (if t131 = t132 then ((word_Signed.f a3 (wrap64 ((wrap64 (Int.tmod a5 70)) - 3))).bind fun t133 => ((scullerref01_Signed.f k a3 (wrap64 ((wrap64 (Int.tmod a5 70)) - 3))).bind fun t134 => (some (t133 == t134)))) else (some false)))) else (some false)))) else (some false)))) else (some false))) else (none)) else (some false)) = some r := H
    have A9 := Aside0.mk A90
    clear A90
    by_cases c10 : t125 = true
    · subst c10
      have H1 : (if 0 ≤ (Int.tmod a5 64) then ((scullerlaw01_adds.f (shr .i64 a0 (Int.tmod a5 64)) (shr .i64 a1 (Int.tmod a5 64)) (shr .i64 a2 ((Int.tdiv (Int.tmod a5 64) 2) % 256))).bind fun t126 => (if t126 = true then ((word_Ceil.f a0 a1).bind fun t127 => ((scullerref01_Ceil.f k a0 a1).bind fun t128 => (if t127 = t128 then ((word_Ceil.f (shr .i64 a0 (Int.tmod a5 64)) (shr .i64 a1 (Int.tmod a5 64))).bind fun t129 => ((scullerref01_Ceil.f k (shr .i64 a0 (Int.tmod a5 64)) (shr .i64 a1 (Int.tmod a5 64))).bind fun t130 => (if t129 = t130 then ((word_Signed.f a3 a4).bind fun t131 => ((scullerref01_Signed.f k a3 a4).bind fun t132 => (if t131 = t132 then ((word_Signed.f a3 (wrap64 ((wrap64 (Int.tmod a5 70)) - 3))).bind fun t133 => ((scullerref01_Signed.f k a3 (wrap64 ((wrap64 (Int.tmod a5 70)) - 3))).bind fun t134 => (some (t133 == t134)))) else (some false)))) else (some false)))) else (some false)))) else (some false))) else (none)) = some r := by rw [if_pos rfl] at H; exact H
      clear H
      have H := H1
      clear H1
      obtain ⟨ji11, hji11⟩ : ∃ j_ : Int, (Int.tmod a5 64) = j_ := ⟨_, rfl⟩
      replace H : (if 0 ≤ (ji11) then ((scullerlaw01_adds.f (shr .i64 a0 (ji11)) (shr .i64 a1 (ji11)) (shr .i64 a2 ((Int.tdiv (ji11) 2) % 256))).bind fun t126 => (if t126 = true then ((word_Ceil.f a0 a1).bind fun t127 => ((scullerref01_Ceil.f k a0 a1).bind fun t128 => (if t127 = t128 then ((word_Ceil.f (shr .i64 a0 (ji11)) (shr .i64 a1 (ji11))).bind fun t129 => ((scullerref01_Ceil.f k (shr .i64 a0 (ji11)) (shr .i64 a1 (ji11))).bind fun t130 => (if t129 = t130 then ((word_Signed.f a3 a4).bind fun t131 => ((scullerref01_Signed.f k a3 a4).bind fun t132 => (if t131 = t132 then ((word_Signed.f a3 (wrap64 ((wrap64 (Int.tmod a5 70)) - 3))).bind fun t133 => ((scullerref01_Signed.f k a3 (wrap64 ((wrap64 (Int.tmod a5 70)) - 3))).bind fun t134 => (some (t133 == t134)))) else (some false)))) else (some false)))) else (some false)))) else (some false))) else (none)) = some r := by first | (rw [hji11] at H; exact H) | (simp only [hji11] at H ⊢; exact H)
      (try rw [hji11] at A7)
      (try rw [hji11] at A9)
      by_cases c12 : 0 ≤ (ji11)
      · rw [if_pos c12] at H
        have c12b0 := eq_true c12
        have c12b1 : decide (0 ≤ (ji11)) = true := decide_eq_true c12
        clear c12
        obtain ⟨ji13, hji13⟩ : ∃ j_ : Int, (shr .i64 a0 (ji11)) = j_ := ⟨_, rfl⟩
        replace H : ((scullerlaw01_adds.f (ji13) (shr .i64 a1 (ji11)) (shr .i64 a2 ((Int.tdiv (ji11) 2) % 256))).bind fun t126 => (if t126 = true then ((word_Ceil.f a0 a1).bind fun t127 => ((scullerref01_Ceil.f k a0 a1).bind fun t128 => (if t127 = t128 then ((word_Ceil.f (ji13) (shr .i64 a1 (ji11))).bind fun t129 => ((scullerref01_Ceil.f k (ji13) (shr .i64 a1 (ji11))).bind fun t130 => (if t129 = t130 then ((word_Signed.f a3 a4).bind fun t131 => ((scullerref01_Signed.f k a3 a4).bind fun t132 => (if t131 = t132 then ((word_Signed.f a3 (wrap64 ((wrap64 (Int.tmod a5 70)) - 3))).bind fun t133 => ((scullerref01_Signed.f k a3 (wrap64 ((wrap64 (Int.tmod a5 70)) - 3))).bind fun t134 => (some (t133 == t134)))) else (some false)))) else (some false)))) else (some false)))) else (some false))) = some r := by first | (rw [hji13] at H; exact H) | (simp only [hji13] at H ⊢; exact H)
        (try rw [hji13] at A7)
        (try rw [hji13] at A9)
        have hji13_ : (a0 / 2 ^ min (ji11).toNat 64) = ji13 := hji13
        (try have hji13p : (0 ≤ ((ji11))) = True := eq_true (by omega))
        have hji13z : (ji11) ≤ 64 → (a0 / 2 ^ (ji11).toNat) = ji13 := shr_small hji13
        have c14b0 := eq_true (of_decide_eq_true (by first | (with_reducible assumption) | assumption) : 0 ≤ (ji11))
        obtain ⟨ji15, hji15⟩ : ∃ j_ : Int, (shr .i64 a1 (ji11)) = j_ := ⟨_, rfl⟩
        replace H : ((scullerlaw01_adds.f (ji13) (ji15) (shr .i64 a2 ((Int.tdiv (ji11) 2) % 256))).bind fun t126 => (if t126 = true then ((word_Ceil.f a0 a1).bind fun t127 => ((scullerref01_Ceil.f k a0 a1).bind fun t128 => (if t127 = t128 then ((word_Ceil.f (ji13) (ji15)).bind fun t129 => ((scullerref01_Ceil.f k (ji13) (ji15)).bind fun t130 => (if t129 = t130 then ((word_Signed.f a3 a4).bind fun t131 => ((scullerref01_Signed.f k a3 a4).bind fun t132 => (if t131 = t132 then ((word_Signed.f a3 (wrap64 ((wrap64 (Int.tmod a5 70)) - 3))).bind fun t133 => ((scullerref01_Signed.f k a3 (wrap64 ((wrap64 (Int.tmod a5 70)) - 3))).bind fun t134 => (some (t133 == t134)))) else (some false)))) else (some false)))) else (some false)))) else (some false))) = some r := by first | (rw [hji15] at H; exact H) | (simp only [hji15] at H ⊢; exact H)
        (try rw [hji15] at A7)
        (try rw [hji15] at A9)
        have hji15_ : (a1 / 2 ^ min (ji11).toNat 64) = ji15 := hji15
        (try have hji15p : (0 ≤ ((ji11))) = True := eq_true (by omega))
        have hji15z : (ji11) ≤ 64 → (a1 / 2 ^ (ji11).toNat) = ji15 := shr_small hji15
        obtain ⟨ji16, hji16⟩ : ∃ j_ : Int, (shr .i64 a2 ((Int.tdiv (ji11) 2) % 256)) = j_ := ⟨_, rfl⟩
        replace H : ((scullerlaw01_adds.f (ji13) (ji15) (ji16)).bind fun t126 => (if t126 = true then ((word_Ceil.f a0 a1).bind fun t127 => ((scullerref01_Ceil.f k a0 a1).bind fun t128 => (if t127 = t128 then ((word_Ceil.f (ji13) (ji15)).bind fun t129 => ((scullerref01_Ceil.f k (ji13) (ji15)).bind fun t130 => (if t129 = t130 then ((word_Signed.f a3 a4).bind fun t131 => ((scullerref01_Signed.f k a3 a4).bind fun t132 => (if t131 = t132 then ((word_Signed.f a3 (wrap64 ((wrap64 (Int.tmod a5 70)) - 3))).bind fun t133 => ((scullerref01_Signed.f k a3 (wrap64 ((wrap64 (Int.tmod a5 70)) - 3))).bind fun t134 => (some (t133 == t134)))) else (some false)))) else (some false)))) else (some false)))) else (some false))) = some r := by first | (rw [hji16] at H; exact H) | (simp only [hji16] at H ⊢; exact H)
        (try rw [hji16] at A7)
        (try rw [hji16] at A9)
        have hji16_ : (a2 / 2 ^ min ((Int.tdiv (ji11) 2) % 256).toNat 64) = ji16 := hji16
        (try have hji16p : (0 ≤ (((Int.tdiv (ji11) 2) % 256))) = True := eq_true (by omega))
        have hji16z : ((Int.tdiv (ji11) 2) % 256) ≤ 64 → (a2 / 2 ^ ((Int.tdiv (ji11) 2) % 256).toNat) = ji16 := shr_small hji16
        replace H := Option.bind_eq_some_iff.mp H
        obtain ⟨t126, A170, H⟩ := H
        replace H : (if t126 = true then ((word_Ceil.f a0 a1).bind fun t127 => ((scullerref01_Ceil.f k a0 a1).bind fun t128 => (if t127 = t128 then ((word_Ceil.f (ji13) (ji15)).bind fun t129 => ((scullerref01_Ceil.f k (ji13) (ji15)).bind fun t130 => (if t129 = t130 then ((word_Signed.f a3 a4).bind fun t131 => ((scullerref01_Signed.f k a3 a4).bind fun t132 => (if t131 = t132 then ((word_Signed.f a3 (wrap64 ((wrap64 (Int.tmod a5 70)) - 3))).bind fun t133 => ((scullerref01_Signed.f k a3 (wrap64 ((wrap64 (Int.tmod a5 70)) - 3))).bind fun t134 => (some (t133 == t134)))) else (some false)))) else (some false)))) else (some false)))) else (some false)) = some r := H
        have A17 := Aside0.mk A170
        clear A170
        by_cases c18 : t126 = true
        · subst c18
          have H1 : ((word_Ceil.f a0 a1).bind fun t127 => ((scullerref01_Ceil.f k a0 a1).bind fun t128 => (if t127 = t128 then ((word_Ceil.f (ji13) (ji15)).bind fun t129 => ((scullerref01_Ceil.f k (ji13) (ji15)).bind fun t130 => (if t129 = t130 then ((word_Signed.f a3 a4).bind fun t131 => ((scullerref01_Signed.f k a3 a4).bind fun t132 => (if t131 = t132 then ((word_Signed.f a3 (wrap64 ((wrap64 (Int.tmod a5 70)) - 3))).bind fun t133 => ((scullerref01_Signed.f k a3 (wrap64 ((wrap64 (Int.tmod a5 70)) - 3))).bind fun t134 => (some (t133 == t134)))) else (some false)))) else (some false)))) else (some false)))) = some r := by rw [if_pos rfl] at H; exact H
          clear H
          have H := H1
          clear H1
          replace H := Option.bind_eq_some_iff.mp H
          obtain ⟨t127, A190, H⟩ := H
          replace H : ((scullerref01_Ceil.f k a0 a1).bind fun t128 => (if t127 = t128 then ((word_Ceil.f (ji13) (ji15)).bind fun t129 => ((scullerref01_Ceil.f k (ji13) (ji15)).bind fun t130 => (if t129 = t130 then ((word_Signed.f a3 a4).bind fun t131 => ((scullerref01_Signed.f k a3 a4).bind fun t132 => (if t131 = t132 then ((word_Signed.f a3 (wrap64 ((wrap64 (Int.tmod a5 70)) - 3))).bind fun t133 => ((scullerref01_Signed.f k a3 (wrap64 ((wrap64 (Int.tmod a5 70)) - 3))).bind fun t134 => (some (t133 == t134)))) else (some false)))) else (some false)))) else (some false))) = some r := H
          have A19 := Aside0.mk A190
          clear A190
          replace H := Option.bind_eq_some_iff.mp H
          obtain ⟨t128, A200, H⟩ := H
          replace H : (if t127 = t128 then ((word_Ceil.f (ji13) (ji15)).bind fun t129 => ((scullerref01_Ceil.f k (ji13) (ji15)).bind fun t130 => (if t129 = t130 then ((word_Signed.f a3 a4).bind fun t131 => ((scullerref01_Signed.f k a3 a4).bind fun t132 => (if t131 = t132 then ((word_Signed.f a3 (wrap64 ((wrap64 (Int.tmod a5 70)) - 3))).bind fun t133 => ((scullerref01_Signed.f k a3 (wrap64 ((wrap64 (Int.tmod a5 70)) - 3))).bind fun t134 => (some (t133 == t134)))) else (some false)))) else (some false)))) else (some false)) = some r := H
          have A20 := Aside0.mk A200
          clear A200
          by_cases c21 : t127 = t128
          · rw [if_pos c21] at H
            have c21b0 : (t127 == t128) = true := beq_iff_eq.mpr c21
            have c21b1 : (t127 != t128) = false := bne_eq_false_iff_eq.mpr c21
            clear c21
            have c22b0 := eq_true (of_decide_eq_true (by first | (with_reducible assumption) | assumption) : 0 ≤ (ji11))
            have c24b0 := eq_true (of_decide_eq_true (by first | (with_reducible assumption) | assumption) : 0 ≤ (ji11))
            replace H := Option.bind_eq_some_iff.mp H
            obtain ⟨t129, A260, H⟩ := H
            replace H : ((scullerref01_Ceil.f k (ji13) (ji15)).bind fun t130 => (if t129 = t130 then ((word_Signed.f a3 a4).bind fun t131 => ((scullerref01_Signed.f k a3 a4).bind fun t132 => (if t131 = t132 then ((word_Signed.f a3 (wrap64 ((wrap64 (Int.tmod a5 70)) - 3))).bind fun t133 => ((scullerref01_Signed.f k a3 (wrap64 ((wrap64 (Int.tmod a5 70)) - 3))).bind fun t134 => (some (t133 == t134)))) else (some false)))) else (some false))) = some r := H
            have A26 := Aside0.mk A260
            clear A260
            have c27b0 := eq_true (of_decide_eq_true (by first | (with_reducible assumption) | assumption) : 0 ≤ (ji11))
            have c29b0 := eq_true (of_decide_eq_true (by first | (with_reducible assumption) | assumption) : 0 ≤ (ji11))
            replace H := Option.bind_eq_some_iff.mp H
            obtain ⟨t130, A310, H⟩ := H
            replace H : (if t129 = t130 then ((word_Signed.f a3 a4).bind fun t131 => ((scullerref01_Signed.f k a3 a4).bind fun t132 => (if t131 = t132 then ((word_Signed.f a3 (wrap64 ((wrap64 (Int.tmod a5 70)) - 3))).bind fun t133 => ((scullerref01_Signed.f k a3 (wrap64 ((wrap64 (Int.tmod a5 70)) - 3))).bind fun t134 => (some (t133 == t134)))) else (some false)))) else (some false)) = some r := H
            have A31 := Aside0.mk A310
            clear A310
            by_cases c32 : t129 = t130
            · rw [if_pos c32] at H
              have c32b0 : (t129 == t130) = true := beq_iff_eq.mpr c32
              have c32b1 : (t129 != t130) = false := bne_eq_false_iff_eq.mpr c32
              clear c32
              replace H := Option.bind_eq_some_iff.mp H
              obtain ⟨t131, A330, H⟩ := H
              replace H : ((scullerref01_Signed.f k a3 a4).bind fun t132 => (if t131 = t132 then ((word_Signed.f a3 (wrap64 ((wrap64 (Int.tmod a5 70)) - 3))).bind fun t133 => ((scullerref01_Signed.f k a3 (wrap64 ((wrap64 (Int.tmod a5 70)) - 3))).bind fun t134 => (some (t133 == t134)))) else (some false))) = some r := H
              have A33 := Aside0.mk A330
              clear A330
              replace H := Option.bind_eq_some_iff.mp H
              obtain ⟨t132, A340, H⟩ := H
              replace H : (if t131 = t132 then ((word_Signed.f a3 (wrap64 ((wrap64 (Int.tmod a5 70)) - 3))).bind fun t133 => ((scullerref01_Signed.f k a3 (wrap64 ((wrap64 (Int.tmod a5 70)) - 3))).bind fun t134 => (some (t133 == t134)))) else (some false)) = some r := H
              have A34 := Aside0.mk A340
              clear A340
              by_cases c35 : t131 = t132
              · rw [if_pos c35] at H
                have c35b0 : (t131 == t132) = true := beq_iff_eq.mpr c35
                have c35b1 : (t131 != t132) = false := bne_eq_false_iff_eq.mpr c35
                clear c35
                replace H := Option.bind_eq_some_iff.mp H
                obtain ⟨t133, A360, H⟩ := H
                replace H : ((scullerref01_Signed.f k a3 (wrap64 ((wrap64 (Int.tmod a5 70)) - 3))).bind fun t134 => (some (t133 == t134))) = some r := H
                have A36 := Aside0.mk A360
                clear A360
                replace H := Option.bind_eq_some_iff.mp H
                obtain ⟨t134, A370, H⟩ := H
                replace H : (some (t133 == t134)) = some r := H
                have A37 := Aside0.mk A370
                clear A370
                obtain rfl := Option.some.inj H
                go_enter Try.func3, Try.ntmps3
                go_wp2_with (first | ((first | ((with_reducible refine gate_callee (f := 35) rfl ?_); refine goesL_ (some 16) rfl rfl Try.func35 (by kernel_rfl) rfl #[] rfl (by (try simp only [List.map_toArray, List.map_cons, List.map_nil]); first | done | rfl | (simp only [List.length_drop, List.length_take]; rfl)) ?_; (with_reducible refine (scullerlaw01_known.calls k  true _ A7.out).mono ?_)) | (go_at_call 35; (with_reducible refine (scullerlaw01_known.calls k  true _ A7.out).mono ?_))); rintro e w38 ⟨rfl, hb⟩; (try refine ⟨_, rfl, ?_⟩); have n0_ := Aside0.mk (below_step (Far.Bb HB.out) hb); clear HB; have HB := n0_; clear n0_; (try clear hb); (try clear hb2); (try clear hk); (try clear hi)) | (go_at_call 36; (with_reducible refine (scullerlaw01_adds.calls a0 a1 a2 true _ A9.out).mono ?_); rintro e w39 ⟨rfl, hb⟩; have n0_ := Aside0.mk (below_step (Far.Bb HB.out) hb); clear HB; have HB := n0_; clear n0_; (try clear hb); (try clear hb2); (try clear hk); (try clear hi)) | (go_at_call 36; (with_reducible refine (scullerlaw01_adds.calls ji13 ji15 ji16 true _ A17.out).mono ?_); rintro e w40 ⟨rfl, hb⟩; have n0_ := Aside0.mk (below_step (Far.Bb HB.out) hb); clear HB; have HB := n0_; clear n0_; (try clear hb); (try clear hb2); (try clear hk); (try clear hi)) | (go_at_call 37; (with_reducible refine (word_Ceil.calls a0 a1 t127 _ A19.out).mono ?_); rintro e w' ⟨rfl, ⟨nd, rfl⟩⟩) | (go_at_call 38; (with_reducible refine (scullerref01_Ceil.calls k a0 a1 t128 _ A20.out).mono ?_); rintro e w' ⟨rfl, ⟨nd, rfl⟩⟩) | (go_at_call 37; (with_reducible refine (word_Ceil.calls ji13 ji15 t129 _ A26.out).mono ?_); rintro e w' ⟨rfl, ⟨nd, rfl⟩⟩) | (go_at_call 38; (with_reducible refine (scullerref01_Ceil.calls k ji13 ji15 t130 _ A31.out).mono ?_); rintro e w' ⟨rfl, ⟨nd, rfl⟩⟩) | (go_at_call 39; (with_reducible refine (word_Signed.calls a3 a4 t131 _ A33.out).mono ?_); rintro e w41 ⟨rfl, hb⟩; have n0_ := Aside0.mk (below_step (Far.Bb HB.out) hb); clear HB; have HB := n0_; clear n0_; (try clear hb); (try clear hb2); (try clear hk); (try clear hi)) | (go_at_call 40; (with_reducible refine (scullerref01_Signed.calls k a3 a4 t132 _ A34.out).mono ?_); rintro e w42 ⟨rfl, hb⟩; have n0_ := Aside0.mk (below_step (Far.Bb HB.out) hb); clear HB; have HB := n0_; clear n0_; (try clear hb); (try clear hb2); (try clear hk); (try clear hi)) | (go_at_call 39; (with_reducible refine (word_Signed.calls a3 (wrap64 ((wrap64 (Int.tmod a5 70)) - 3)) t133 _ A36.out).mono ?_); rintro e w43 ⟨rfl, hb⟩; have n0_ := Aside0.mk (below_step (Far.Bb HB.out) hb); clear HB; have HB := n0_; clear n0_; (try clear hb); (try clear hb2); (try clear hk); (try clear hi)) | (go_at_call 40; (with_reducible refine (scullerref01_Signed.calls k a3 (wrap64 ((wrap64 (Int.tmod a5 70)) - 3)) t134 _ A37.out).mono ?_); rintro e w44 ⟨rfl, hb⟩; have n0_ := Aside0.mk (below_step (Far.Bb HB.out) hb); clear HB; have HB := n0_; clear n0_; (try clear hb); (try clear hb2); (try clear hk); (try clear hi)))
                go_ret
                exact ⟨by first | rfl | (simp [errW_none, errW_some] <;> rfl) | (simp only [← hji11, ← hji13, ← hji15, ← hji16]; first | rfl | (simp [errW_none, errW_some] <;> rfl)) | (simp [*, errW_none, errW_some] <;> rfl), by repeat (first | (with_reducible first | exact HB.out | apply below_alloc | apply pw_below_drewN | apply below_drew1) | exact HB.out)⟩
              · rw [if_neg c35] at H
                have c35b0 : (t131 == t132) = false := beq_eq_false_iff_ne.mpr c35
                have c35b1 : (t131 != t132) = true := bne_iff_ne.mpr c35
                exact absurd ((Option.some.inj H).trans HRT_.out) (by decide)
            · rw [if_neg c32] at H
              have c32b0 : (t129 == t130) = false := beq_eq_false_iff_ne.mpr c32
              have c32b1 : (t129 != t130) = true := bne_iff_ne.mpr c32
              exact absurd ((Option.some.inj H).trans HRT_.out) (by decide)
          · rw [if_neg c21] at H
            have c21b0 : (t127 == t128) = false := beq_eq_false_iff_ne.mpr c21
            have c21b1 : (t127 != t128) = true := bne_iff_ne.mpr c21
            exact absurd ((Option.some.inj H).trans HRT_.out) (by decide)
        · replace c18 := Bool.eq_false_iff.mpr c18
          subst c18
          have H1 : (some false) = some r := by rw [if_neg (show ¬ (false = true) by decide)] at H; exact H
          clear H
          have H := H1
          clear H1
          exact absurd ((Option.some.inj H).trans HRT_.out) (by decide)
      · rw [if_neg c12] at H
        exact absurd H (by simp)
    · replace c10 := Bool.eq_false_iff.mpr c10
      subst c10
      have H1 : (some false) = some r := by rw [if_neg (show ¬ (false = true) by decide)] at H; exact H
      clear H
      have H := H1
      clear H1
      exact absurd ((Option.some.inj H).trans HRT_.out) (by decide)
  · replace c8 := Bool.eq_false_iff.mpr c8
    subst c8
    have H1 : (some false) = some r := by rw [if_neg (show ¬ (false = true) by decide)] at H; exact H
    clear H
    have H := H1
    clear H1
    exact absurd ((Option.some.inj H).trans HRT_.out) (by decide)

/-- THE ONE PURE STATEMENT of scullerlaw01_WordAdds: yours. -/
def scullerlaw01_WordAdds.Pure : Prop := ∀ (a0 : Int) (a1 : Int) (a2 : Int) (a3 : Int) (a4 : Int) (a5 : Int), (Lit.int .i64 a0).wf = true → (Lit.int .i64 a1).wf = true → (Lit.int .i64 a2).wf = true → (Lit.int .u64 a3).wf = true → (Lit.int .i64 a4).wf = true → (Lit.int .u8 a5).wf = true → ∃ k, scullerlaw01_WordAdds.f k a0 a1 a2 a3 a4 a5 = some true
theorem scullerlaw01_WordAdds.walk (P : scullerlaw01_WordAdds.Pure) (a0 : Int) (a1 : Int) (a2 : Int) (a3 : Int) (a4 : Int) (a5 : Int) (w : World) (w0 : (Lit.int .i64 a0).wf = true) (w1 : (Lit.int .i64 a1).wf = true) (w2 : (Lit.int .i64 a2).wf = true) (w3 : (Lit.int .u64 a3).wf = true) (w4 : (Lit.int .i64 a4).wf = true) (w5 : (Lit.int .u8 a5).wf = true) :
    Calls Try.prog 3 #[.int .i64 a0, .int .i64 a1, .int .i64 a2, .int .u64 a3, .int .i64 a4, .int .u8 a5] w fun e w' => e = .returned (.bool true) ∧ Below w.heap.size w w' := by
  obtain ⟨k, h⟩ := P a0 a1 a2 a3 a4 a5 w0 w1 w2 w3 w4 w5
  refine (scullerlaw01_WordAdds.calls k a0 a1 a2 a3 a4 a5 true w h rfl).mono ?_
  rintro e w' ⟨rfl, hd⟩
  exact ⟨rfl, hd⟩

end Go.Proofs.Ytcjicfpdmegckaa.S
