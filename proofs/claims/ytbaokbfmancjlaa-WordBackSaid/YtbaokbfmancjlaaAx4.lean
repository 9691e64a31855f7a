/- Written by a program of this repo (wip/tools/gprint.py): what functions of the Go program compute, the proofs that they do, and the rows of statements. Conditions: those in each theorem. -/
import Derived.Test.YtbaokbfmancjlaaAx0
import Derived.Test.YtbaokbfmancjlaaAx1
import Derived.Test.YtbaokbfmancjlaaAgGet
namespace Go.Proofs.Ytbaokbfmancjlaa.A
open Go.RowKit Go.Proofs.YtbaokbfmancjlaaW.PrintWords Go.Proofs.YtbaokbfmancjlaaW.PrintLast Go.Proofs.YtbaokbfmancjlaaW.PrintMore
attribute [local go_sem] max2_int min2_int max_two min_two max_three min_three max_four min_four   -- for this text's walks alone
set_option linter.unusedVariables false
set_option linter.unusedSimpArgs false

/-! ### scullerlaw01_WordBack: function 9 -/
def scullerlaw01_WordBack.j0 : Nat → Int → Int → Int → Option (Bool)
  | 0, _, _, _ => none
  | k + 1, x0, x5, x6 => (word_Put.f k x0 x5).bind fun t136 => ((scullerlaw01_known.f k).bind fun t139 => (if t139 = true then (if (t136.length : Int) = x5 then ((word_Get.f t136).bind fun t140 => (if t140 = x6 then ((word_Put.f k x0 8).bind fun t141 => ((word_Get.f t141).bind fun t144 => (some (t144 == x0)))) else (some false))) else (some false)) else (some false)))
def scullerlaw01_WordBack.f (k : Nat) (a0 : Int) (a1 : Int) : Option (Bool) := if (wrap64 (Int.tmod a1 9)) < 8 then (if 0 ≤ (IntKind.u64.wrap (wrap64 (8 * (wrap64 (Int.tmod a1 9))))) then (if (shl .u64 1 (IntKind.u64.wrap (wrap64 (8 * (wrap64 (Int.tmod a1 9)))))) = 0 then (none) else (scullerlaw01_WordBack.j0 k a0 (wrap64 (Int.tmod a1 9)) (Int.tmod a0 (shl .u64 1 (IntKind.u64.wrap (wrap64 (8 * (wrap64 (Int.tmod a1 9))))))))) else (none)) else (scullerlaw01_WordBack.j0 k a0 (wrap64 (Int.tmod a1 9)) a0)
theorem scullerlaw01_WordBack.mono_l : ∀ k, (∀ y0 y1 y2, LeO (scullerlaw01_WordBack.j0 k y0 y1 y2) (scullerlaw01_WordBack.j0 (k + 1) y0 y1 y2))
  | 0 => fun _ _ _ r h => by simp [scullerlaw01_WordBack.j0] at h
  | k + 1 => by
    have ih0 := scullerlaw01_WordBack.mono_l k
    · intro y0 y1 y2
      unfold scullerlaw01_WordBack.j0
      repeat' first
      | (with_reducible exact ih0 _ _ _)
      | (with_reducible exact scullerlaw01_known.mono _)
      | (with_reducible exact word_Put.mono _ _ _)
      | (with_reducible exact LeO.refl _)
      | (with_reducible exact LeO.none _)
      | (with_reducible refine LeO.ite ?_ ?_)
      | (with_reducible refine LeO.bind ?_ (fun _ => ?_))
      | exact ih0 _ _ _
      | exact scullerlaw01_known.mono _
      | exact word_Put.mono _ _ _
      | exact LeO.none _
      | refine LeO.ite ?_ ?_
      | refine LeO.bind ?_ (fun _ => ?_)
theorem scullerlaw01_WordBack.mono : ∀ a0 a1 k, LeO (scullerlaw01_WordBack.f k a0 a1) (scullerlaw01_WordBack.f (k + 1) a0 a1) := by
  intro a0 a1 k
  have ih0 := scullerlaw01_WordBack.mono_l k
  unfold scullerlaw01_WordBack.f
  repeat' first
      | (with_reducible exact ih0 _ _ _)
      | (with_reducible exact scullerlaw01_known.mono _)
      | (with_reducible exact word_Put.mono _ _ _)
      | (with_reducible exact LeO.refl _)
      | (with_reducible exact LeO.none _)
      | (with_reducible refine LeO.ite ?_ ?_)
      | (with_reducible refine LeO.bind ?_ (fun _ => ?_))
      | exact ih0 _ _ _
      | exact scullerlaw01_known.mono _
      | exact word_Put.mono _ _ _
      | exact LeO.none _
      | refine LeO.ite ?_ ?_
      | refine LeO.bind ?_ (fun _ => ?_)
set_option maxHeartbeats 8000000 in
set_option maxRecDepth 100000 in
theorem scullerlaw01_WordBack.calls (k : Nat) (a0 : Int) (a1 : Int) (r : Bool) (w : World) (h : scullerlaw01_WordBack.f k a0 a1 = some r) :
    Calls Try.prog 9 #[.int .u64 a0, .int .u8 a1] w fun e w' => e = .returned (.bool r) ∧ Below w.heap.size w w' := by
  have HB := Aside0.mk (Below.refl w.heap.size w)
  have H : (if (wrap64 (Int.tmod a1 9)) < 8 then (if 0 ≤ (IntKind.u64.wrap (wrap64 (8 * (wrap64 (Int.tmod a1 9))))) then (if (shl .u64 1 (IntKind.u64.wrap (wrap64 (8 * (wrap64 (Int.tmod a1 9)))))) = 0 then (none) else (scullerlaw01_WordBack.j0 k a0 (wrap64 (Int.tmod a1 9)) (Int.tmod a0 (shl .u64 1 (IntKind.u64.wrap (wrap64 (8 * (wrap64 (Int.tmod a1 9))))))))) else (none)) else (scullerlaw01_WordBack.j0 k a0 (wrap64 (Int.tmod a1 9)) a0)) = some r := h
  clear h
  have HC3 := Aside0.mk H
  clear H
  go_enter Try.func9, Try.ntmps9
  go_upto_if 13 with (fail)
  go_cut [6] (fun v6 wc => ∃ (kq : Nat) (x6_2 : Int), v6 = .int .u64 x6_2 ∧ Aside0 (scullerlaw01_WordBack.j0 kq a0 (wrap64 (Int.tmod a1 9)) x6_2 = some r) ∧ Aside0 (kq ≤ k) ∧ Aside0 (Below w.heap.size w wc))
  case first =>
    have H := HC3.out
    clear HC3
    by_cases c4 : (wrap64 (Int.tmod a1 9)) < 8
    · rw [if_pos c4] at H
      have c4b0 : decide ((wrap64 (Int.tmod a1 9)) < 8) = true := decide_eq_true c4
      clear c4
      (first | rw [c4b0] | (simp only [i64_w, i32_w]; rw [c4b0]) | skip)
      obtain ⟨ji5, hji5⟩ : ∃ j_ : Int, (IntKind.u64.wrap (wrap64 (8 * (wrap64 (Int.tmod a1 9))))) = j_ := ⟨_, rfl⟩
      replace H : (if 0 ≤ (ji5) then (if (shl .u64 1 (ji5)) = 0 then (none) else (scullerlaw01_WordBack.j0 k a0 (wrap64 (Int.tmod a1 9)) (Int.tmod a0 (shl .u64 1 (ji5))))) else (none)) = some r := by first | (rw [hji5] at H; exact H) | (simp only [hji5] at H ⊢; exact H)
      by_cases c6 : 0 ≤ (ji5)
      · rw [if_pos c6] at H
        have c6b0 := eq_true c6
        have c6b1 : decide (0 ≤ (ji5)) = true := decide_eq_true c6
        clear c6
        obtain ⟨ji7, hji7⟩ : ∃ j_ : Int, (shl .u64 1 (ji5)) = j_ := ⟨_, rfl⟩
        replace H : (if (ji7) = 0 then (none) else (scullerlaw01_WordBack.j0 k a0 (wrap64 (Int.tmod a1 9)) (Int.tmod a0 (ji7)))) = some r := by first | (rw [hji7] at H; exact H) | (simp only [hji7] at H ⊢; exact H)
        have hji7_ : (IntKind.u64.wrap (1 * 2 ^ min (ji5).toNat 64)) = ji7 := hji7
        (try have hji7p : (0 ≤ ((ji5))) = True := eq_true (by omega))
        have hji7z : (ji5) ≤ 64 → (IntKind.u64.wrap (1 * 2 ^ (ji5).toNat)) = ji7 := shl_small hji7
        have hji7u : (IntKind.u64.wrap (2 ^ min (ji5).toNat 64)) = ji7 := by have h_ := hji7_; rw [Int.one_mul] at h_; exact h_
        have hji7v : (ji5) ≤ 64 → (IntKind.u64.wrap (2 ^ (ji5).toNat)) = ji7 := fun hle_ => by have h_ := hji7z hle_; rw [Int.one_mul] at h_; exact h_
        by_cases c8 : (ji7) = 0
        · rw [if_pos c8] at H
          exact absurd H (by simp)
        · rw [if_neg c8] at H
          have c8b0 : ((ji7) == 0) = false := beq_eq_false_iff_ne.mpr c8
          have c8b1 : ((ji7) != 0) = true := bne_iff_ne.mpr c8
          have H' := Aside0.mk H
          clear H
          go_wp2
          go_meet
          case rel => exact ⟨_, (Int.tmod a0 (ji7)), (by first | rfl | (simp; done) | (simp only [← hji7] <;> (first | rfl | simp)) | (simp [*]; done)), H', ⟨by first | omega | exact Nat.le_refl _⟩, ⟨by repeat (first | (with_reducible first | exact HB.out | apply below_alloc | apply pw_below_drewN | apply below_drew1) | exact HB.out)⟩⟩
      · rw [if_neg c6] at H
        exact absurd H (by simp)
    · rw [if_neg c4] at H
      have c4b0 : decide ((wrap64 (Int.tmod a1 9)) < 8) = false := decide_eq_false c4
      clear c4
      (first | rw [c4b0] | (simp only [i64_w, i32_w]; rw [c4b0]) | skip)
      have H' := Aside0.mk H
      clear H
      go_wp2
      go_meet
      case rel => exact ⟨_, (a0), (by first | rfl | (simp; done) | (simp [*]; done)), H', ⟨by first | omega | exact Nat.le_refl _⟩, ⟨by repeat (first | (with_reducible first | exact HB.out | apply below_alloc | apply pw_below_drewN | apply below_drew1) | exact HB.out)⟩⟩
  case rest =>
    clear HC3
    try clear p2
    try clear c4
    try clear c4b0
    try clear c6
    try clear c6b0
    try clear c6b1
    try clear p6
    try clear c8
    try clear c8b0
    try clear c8b1
    obtain ⟨kq, x6_2, rfl, HA, HJ2, HB⟩ := hcut
    cases kq with
    | zero => exact absurd HA.out (by simp [scullerlaw01_WordBack.j0])
    | succ kj2 =>
      have H := HA.out
      clear HA
      simp only [scullerlaw01_WordBack.j0] at H
      replace H := Option.bind_eq_some_iff.mp H
      obtain ⟨t136, A90, H⟩ := H
      replace H : ((scullerlaw01_known.f kj2).bind fun t139 => (if t139 = true then (if (t136.length : Int) = (wrap64 (Int.tmod a1 9)) then ((word_Get.f t136).bind fun t140 => (if t140 = x6_2 then ((word_Put.f kj2 a0 8).bind fun t141 => ((word_Get.f t141).bind fun t144 => (some (t144 == a0)))) else (some false))) else (some false)) else (some false))) = some r := H
      have A9 := Aside0.mk A90
      clear A90
      replace H := Option.bind_eq_some_iff.mp H
      obtain ⟨t139, A100, H⟩ := H
      replace H : (if t139 = true then (if (t136.length : Int) = (wrap64 (Int.tmod a1 9)) then ((word_Get.f t136).bind fun t140 => (if t140 = x6_2 then ((word_Put.f kj2 a0 8).bind fun t141 => ((word_Get.f t141).bind fun t144 => (some (t144 == a0)))) else (some false))) else (some false)) else (some false)) = some r := H
      have A10 := Aside0.mk A100
      clear A100
      by_cases c11 : t139 = true
      · subst c11
        have H1 : (if (t136.length : Int) = (wrap64 (Int.tmod a1 9)) then ((word_Get.f t136).bind fun t140 => (if t140 = x6_2 then ((word_Put.f kj2 a0 8).bind fun t141 => ((word_Get.f t141).bind fun t144 => (some (t144 == a0)))) else (some false))) else (some false)) = some r := by rw [if_pos rfl] at H; exact H
        clear H
        have H := H1
        clear H1
        by_cases c12 : (t136.length : Int) = (wrap64 (Int.tmod a1 9))
        · rw [if_pos c12] at H
          have c12b0 : ((t136.length : Int) == (wrap64 (Int.tmod a1 9))) = true := beq_iff_eq.mpr c12
          have c12b1 : ((t136.length : Int) != (wrap64 (Int.tmod a1 9))) = false := bne_eq_false_iff_eq.mpr c12
          clear c12
          replace H := Option.bind_eq_some_iff.mp H
          obtain ⟨t140, A130, H⟩ := H
          replace H : (if t140 = x6_2 then ((word_Put.f kj2 a0 8).bind fun t141 => ((word_Get.f t141).bind fun t144 => (some (t144 == a0)))) else (some false)) = some r := H
          have A13 := Aside0.mk A130
          clear A130
          by_cases c14 : t140 = x6_2
          · rw [if_pos c14] at H
            have c14b0 : (t140 == x6_2) = true := beq_iff_eq.mpr c14
            have c14b1 : (t140 != x6_2) = false := bne_eq_false_iff_eq.mpr c14
            clear c14
            replace H := Option.bind_eq_some_iff.mp H
            obtain ⟨t141, A150, H⟩ := H
            replace H : ((word_Get.f t141).bind fun t144 => (some (t144 == a0))) = some r := H
            have A15 := Aside0.mk A150
            clear A150
            replace H := Option.bind_eq_some_iff.mp H
            obtain ⟨t144, A160, H⟩ := H
            replace H : (some (t144 == a0)) = some r := H
            have A16 := Aside0.mk A160
            clear A160
            obtain rfl := Option.some.inj H
            go_wp2_with (first | ((first | ((with_reducible refine gate_callee (f := 33) rfl ?_); refine goesL_ (some 22) rfl rfl Try.func33 (by kernel_rfl) rfl #[.int .u64 a0, .int .i64 (wrap64 (Int.tmod a1 9))] rfl (by (try simp only [List.map_toArray, List.map_cons, List.map_nil]); first | done | rfl | (simp only [List.length_drop, List.length_take]; rfl)) ?_; (with_reducible refine (word_Put.calls kj2 a0 (wrap64 (Int.tmod a1 9)) t136 _ A9.out).mono ?_); rintro e w17 ⟨v137, rfl, ho0, hb⟩; refine ⟨_, rfl, ?_⟩) | (go_at_call 33; (with_reducible refine (word_Put.calls kj2 a0 (wrap64 (Int.tmod a1 9)) t136 _ A9.out).mono ?_); rintro e w17 ⟨v137, rfl, ho0, hb⟩)); have n0_ := Aside0.mk (Kd.R_lower ho0 (below_size (by repeat (first | (with_reducible first | exact HB.out | apply below_alloc | apply pw_below_drewN | apply below_drew1) | exact HB.out)))); have n1_ := Aside0.mk (below_step (by repeat (first | (with_reducible first | exact HB.out | apply below_alloc | apply pw_below_drewN | apply below_drew1) | exact HB.out)) hb); clear HB; have HO138 := n0_; have HB := n1_; clear n0_ n1_; (try clear hb); (try clear hb2); (try clear hk); (try clear hi); (try clear ho0)) | ((first | ((with_reducible refine gate_callee (f := 26) rfl ?_); refine goesL_ (some 23) rfl rfl Try.func26 (by kernel_rfl) rfl #[] rfl (by (try simp only [List.map_toArray, List.map_cons, List.map_nil]); first | done | rfl | (simp only [List.length_drop, List.length_take]; rfl)) ?_; (with_reducible refine (scullerlaw01_known.calls kj2  true _ A10.out).mono ?_); rintro e w18 ⟨rfl, hb⟩; refine ⟨_, rfl, ?_⟩) | (go_at_call 26; (with_reducible refine (scullerlaw01_known.calls kj2  true _ A10.out).mono ?_); rintro e w18 ⟨rfl, hb⟩)); have n0_ := Aside0.mk (Kd.R_below (by (with_reducible repeat (first | apply Kd.R_alloc | apply Kd.R_drewN | apply Kd.R_drew)); exact HO138.out) hb); have n1_ := Aside0.mk (below_step (by repeat (first | (with_reducible first | exact HB.out | apply below_alloc | apply pw_below_drewN | apply below_drew1) | exact HB.out)) hb); clear HO138; clear HB; have HO138 := n0_; have HB := n1_; clear n0_ n1_; (try clear hb); (try clear hb2); (try clear hk); (try clear hi); obtain ⟨Ao19, co19, eo19⟩ := Kd.R_slice HO138.out; subst eo19) | (go_at_call 35; (with_reducible refine (word_Get.calls _ _ t136 t140 _ ?side1 ?side2 A13.out).mono ?_); (case side1 => repeat (first | exact (Kd.R_reads' HO138.out).2.2 | (with_reducible refine Kd.C_alloc ?_ _) | (with_reducible refine Kd.C_drewN ?_ _) | (with_reducible refine Kd.C_drew ?_))); (case side2 => exact (Kd.R_reads' HO138.out).2.1); rintro e w20 ⟨rfl, hb⟩; have n0_ := Aside0.mk (Kd.R_below (by (with_reducible repeat (first | apply Kd.R_alloc | apply Kd.R_drewN | apply Kd.R_drew)); exact HO138.out) hb); have n1_ := Aside0.mk (below_step (by repeat (first | (with_reducible first | exact HB.out | apply below_alloc | apply pw_below_drewN | apply below_drew1) | exact HB.out)) hb); clear HO138; clear HB; have HO138 := n0_; have HB := n1_; clear n0_ n1_; (try clear hb); (try clear hb2); (try clear hk); (try clear hi)) | (go_at_call 33; (with_reducible refine (word_Put.calls kj2 a0 8 t141 _ A15.out).mono ?_); rintro e w21 ⟨v142, rfl, ho0, hb⟩; have n0_ := Aside0.mk (Kd.R_elder' (by (with_reducible repeat (first | apply Kd.R_alloc | apply Kd.R_drewN | apply Kd.R_drew)); exact HO138.out) (Kd.R_base ho0) hb); have n1_ := Aside0.mk (Kd.R_lower (Kd.R_new' ho0 (Kd.R_lt (by (with_reducible repeat (first | apply Kd.R_alloc | apply Kd.R_drewN | apply Kd.R_drew)); exact HO138.out))) (below_size (by repeat (first | (with_reducible first | exact HB.out | apply below_alloc | apply pw_below_drewN | apply below_drew1) | exact HB.out)))); have n2_ := Aside0.mk (below_step (by repeat (first | (with_reducible first | exact HB.out | apply below_alloc | apply pw_below_drewN | apply below_drew1) | exact HB.out)) hb); clear HO138; clear HB; have HO138 := n0_; have HO143 := n1_; have HB := n2_; clear n0_ n1_ n2_; (try clear hb); (try clear hb2); (try clear hk); (try clear hi); (try clear ho0); obtain ⟨Ao22, co22, eo22⟩ := Kd.R_slice HO143.out; subst eo22) | (go_at_call 35; (with_reducible refine (word_Get.calls _ _ t141 t144 _ ?side1 ?side2 A16.out).mono ?_); (case side1 => repeat (first | exact (Kd.R_reads' HO143.out).2.2 | (with_reducible refine Kd.C_alloc ?_ _) | (with_reducible refine Kd.C_drewN ?_ _) | (with_reducible refine Kd.C_drew ?_))); (case side2 => exact (Kd.R_reads' HO143.out).2.1); rintro e w23 ⟨rfl, hb⟩; have n0_ := Aside0.mk (Kd.R_below (by (with_reducible repeat (first | apply Kd.R_alloc | apply Kd.R_drewN | apply Kd.R_drew)); exact HO138.out) hb); have n1_ := Aside0.mk (Kd.R_below (by (with_reducible repeat (first | apply Kd.R_alloc | apply Kd.R_drewN | apply Kd.R_drew)); exact HO143.out) hb); have n2_ := Aside0.mk (below_step (by repeat (first | (with_reducible first | exact HB.out | apply below_alloc | apply pw_below_drewN | apply below_drew1) | exact HB.out)) hb); clear HO138; clear HO143; clear HB; have HO138 := n0_; have HO143 := n1_; have HB := n2_; clear n0_ n1_ n2_; (try clear hb); (try clear hb2); (try clear hk); (try clear hi)))
            go_ret
            exact ⟨by first | rfl | (simp [errW_none, errW_some] <;> rfl) | (simp [*, errW_none, errW_some] <;> rfl), by repeat (first | (with_reducible first | exact HB.out | apply below_alloc | apply pw_below_drewN | apply below_drew1) | exact HB.out)⟩
          · rw [if_neg c14] at H
            have c14b0 : (t140 == x6_2) = false := beq_eq_false_iff_ne.mpr c14
            have c14b1 : (t140 != x6_2) = true := bne_iff_ne.mpr c14
            obtain rfl := Option.some.inj H
            go_wp2_with (first | ((first | ((with_reducible refine gate_callee (f := 33) rfl ?_); refine goesL_ (some 22) rfl rfl Try.func33 (by kernel_rfl) rfl #[.int .u64 a0, .int .i64 (wrap64 (Int.tmod a1 9))] rfl (by (try simp only [List.map_toArray, List.map_cons, List.map_nil]); first | done | rfl | (simp only [List.length_drop, List.length_take]; rfl)) ?_; (with_reducible refine (word_Put.calls kj2 a0 (wrap64 (Int.tmod a1 9)) t136 _ A9.out).mono ?_); rintro e w24 ⟨v137, rfl, ho0, hb⟩; refine ⟨_, rfl, ?_⟩) | (go_at_call 33; (with_reducible refine (word_Put.calls kj2 a0 (wrap64 (Int.tmod a1 9)) t136 _ A9.out).mono ?_); rintro e w24 ⟨v137, rfl, ho0, hb⟩)); have n0_ := Aside0.mk (Kd.R_lower ho0 (below_size (by repeat (first | (with_reducible first | exact HB.out | apply below_alloc | apply pw_below_drewN | apply below_drew1) | exact HB.out)))); have n1_ := Aside0.mk (below_step (by repeat (first | (with_reducible first | exact HB.out | apply below_alloc | apply pw_below_drewN | apply below_drew1) | exact HB.out)) hb); clear HB; have HO138 := n0_; have HB := n1_; clear n0_ n1_; (try clear hb); (try clear hb2); (try clear hk); (try clear hi); (try clear ho0)) | ((first | ((with_reducible refine gate_callee (f := 26) rfl ?_); refine goesL_ (some 23) rfl rfl Try.func26 (by kernel_rfl) rfl #[] rfl (by (try simp only [List.map_toArray, List.map_cons, List.map_nil]); first | done | rfl | (simp only [List.length_drop, List.length_take]; rfl)) ?_; (with_reducible refine (scullerlaw01_known.calls kj2  true _ A10.out).mono ?_); rintro e w25 ⟨rfl, hb⟩; refine ⟨_, rfl, ?_⟩) | (go_at_call 26; (with_reducible refine (scullerlaw01_known.calls kj2  true _ A10.out).mono ?_); rintro e w25 ⟨rfl, hb⟩)); have n0_ := Aside0.mk (Kd.R_below (by (with_reducible repeat (first | apply Kd.R_alloc | apply Kd.R_drewN | apply Kd.R_drew)); exact HO138.out) hb); have n1_ := Aside0.mk (below_step (by repeat (first | (with_reducible first | exact HB.out | apply below_alloc | apply pw_below_drewN | apply below_drew1) | exact HB.out)) hb); clear HO138; clear HB; have HO138 := n0_; have HB := n1_; clear n0_ n1_; (try clear hb); (try clear hb2); (try clear hk); (try clear hi); obtain ⟨Ao26, co26, eo26⟩ := Kd.R_slice HO138.out; subst eo26) | (go_at_call 35; (with_reducible refine (word_Get.calls _ _ t136 t140 _ ?side1 ?side2 A13.out).mono ?_); (case side1 => repeat (first | exact (Kd.R_reads' HO138.out).2.2 | (with_reducible refine Kd.C_alloc ?_ _) | (with_reducible refine Kd.C_drewN ?_ _) | (with_reducible refine Kd.C_drew ?_))); (case side2 => exact (Kd.R_reads' HO138.out).2.1); rintro e w27 ⟨rfl, hb⟩; have n0_ := Aside0.mk (Kd.R_below (by (with_reducible repeat (first | apply Kd.R_alloc | apply Kd.R_drewN | apply Kd.R_drew)); exact HO138.out) hb); have n1_ := Aside0.mk (below_step (by repeat (first | (with_reducible first | exact HB.out | apply below_alloc | apply pw_below_drewN | apply below_drew1) | exact HB.out)) hb); clear HO138; clear HB; have HO138 := n0_; have HB := n1_; clear n0_ n1_; (try clear hb); (try clear hb2); (try clear hk); (try clear hi)))
            go_ret
            exact ⟨by first | rfl | (simp [errW_none, errW_some] <;> rfl) | (simp [*, errW_none, errW_some] <;> rfl), by repeat (first | (with_reducible first | exact HB.out | apply below_alloc | apply pw_below_drewN | apply below_drew1) | exact HB.out)⟩
        · rw [if_neg c12] at H
          have c12b0 : ((t136.length : Int) == (wrap64 (Int.tmod a1 9))) = false := beq_eq_false_iff_ne.mpr c12
          have c12b1 : ((t136.length : Int) != (wrap64 (Int.tmod a1 9))) = true := bne_iff_ne.mpr c12
          obtain rfl := Option.some.inj H
          go_wp2_with (first | ((first | ((with_reducible refine gate_callee (f := 33) rfl ?_); refine goesL_ (some 22) rfl rfl Try.func33 (by kernel_rfl) rfl #[.int .u64 a0, .int .i64 (wrap64 (Int.tmod a1 9))] rfl (by (try simp only [List.map_toArray, List.map_cons, List.map_nil]); first | done | rfl | (simp only [List.length_drop, List.length_take]; rfl)) ?_; (with_reducible refine (word_Put.calls kj2 a0 (wrap64 (Int.tmod a1 9)) t136 _ A9.out).mono ?_); rintro e w28 ⟨v137, rfl, ho0, hb⟩; refine ⟨_, rfl, ?_⟩) | (go_at_call 33; (with_reducible refine (word_Put.calls kj2 a0 (wrap64 (Int.tmod a1 9)) t136 _ A9.out).mono ?_); rintro e w28 ⟨v137, rfl, ho0, hb⟩)); have n0_ := Aside0.mk (Kd.R_lower ho0 (below_size (by repeat (first | (with_reducible first | exact HB.out | apply below_alloc | apply pw_below_drewN | apply below_drew1) | exact HB.out)))); have n1_ := Aside0.mk (below_step (by repeat (first | (with_reducible first | exact HB.out | apply below_alloc | apply pw_below_drewN | apply below_drew1) | exact HB.out)) hb); clear HB; have HO138 := n0_; have HB := n1_; clear n0_ n1_; (try clear hb); (try clear hb2); (try clear hk); (try clear hi); (try clear ho0)) | ((first | ((with_reducible refine gate_callee (f := 26) rfl ?_); refine goesL_ (some 23) rfl rfl Try.func26 (by kernel_rfl) rfl #[] rfl (by (try simp only [List.map_toArray, List.map_cons, List.map_nil]); first | done | rfl | (simp only [List.length_drop, List.length_take]; rfl)) ?_; (with_reducible refine (scullerlaw01_known.calls kj2  true _ A10.out).mono ?_); rintro e w29 ⟨rfl, hb⟩; refine ⟨_, rfl, ?_⟩) | (go_at_call 26; (with_reducible refine (scullerlaw01_known.calls kj2  true _ A10.out).mono ?_); rintro e w29 ⟨rfl, hb⟩)); have n0_ := Aside0.mk (Kd.R_below (by (with_reducible repeat (first | apply Kd.R_alloc | apply Kd.R_drewN | apply Kd.R_drew)); exact HO138.out) hb); have n1_ := Aside0.mk (below_step (by repeat (first | (with_reducible first | exact HB.out | apply below_alloc | apply pw_below_drewN | apply below_drew1) | exact HB.out)) hb); clear HO138; clear HB; have HO138 := n0_; have HB := n1_; clear n0_ n1_; (try clear hb); (try clear hb2); (try clear hk); (try clear hi); obtain ⟨Ao30, co30, eo30⟩ := Kd.R_slice HO138.out; subst eo30))
          go_ret
          exact ⟨by first | rfl | (simp [errW_none, errW_some] <;> rfl) | (simp [*, errW_none, errW_some] <;> rfl), by repeat (first | (with_reducible first | exact HB.out | apply below_alloc | apply pw_below_drewN | apply below_drew1) | exact HB.out)⟩
      · replace c11 := Bool.eq_false_iff.mpr c11
        subst c11
        have H1 : (some false) = some r := by rw [if_neg (show ¬ (false = true) by decide)] at H; exact H
        clear H
        have H := H1
        clear H1
        obtain rfl := Option.some.inj H
        go_wp2_with (first | ((first | ((with_reducible refine gate_callee (f := 33) rfl ?_); refine goesL_ (some 22) rfl rfl Try.func33 (by kernel_rfl) rfl #[.int .u64 a0, .int .i64 (wrap64 (Int.tmod a1 9))] rfl (by (try simp only [List.map_toArray, List.map_cons, List.map_nil]); first | done | rfl | (simp only [List.length_drop, List.length_take]; rfl)) ?_; (with_reducible refine (word_Put.calls kj2 a0 (wrap64 (Int.tmod a1 9)) t136 _ A9.out).mono ?_); rintro e w31 ⟨v137, rfl, ho0, hb⟩; refine ⟨_, rfl, ?_⟩) | (go_at_call 33; (with_reducible refine (word_Put.calls kj2 a0 (wrap64 (Int.tmod a1 9)) t136 _ A9.out).mono ?_); rintro e w31 ⟨v137, rfl, ho0, hb⟩)); have n0_ := Aside0.mk (Kd.R_lower ho0 (below_size (by repeat (first | (with_reducible first | exact HB.out | apply below_alloc | apply pw_below_drewN | apply below_drew1) | exact HB.out)))); have n1_ := Aside0.mk (below_step (by repeat (first | (with_reducible first | exact HB.out | apply below_alloc | apply pw_below_drewN | apply below_drew1) | exact HB.out)) hb); clear HB; have HO138 := n0_; have HB := n1_; clear n0_ n1_; (try clear hb); (try clear hb2); (try clear hk); (try clear hi); (try clear ho0)) | ((first | ((with_reducible refine gate_callee (f := 26) rfl ?_); refine goesL_ (some 23) rfl rfl Try.func26 (by kernel_rfl) rfl #[] rfl (by (try simp only [List.map_toArray, List.map_cons, List.map_nil]); first | done | rfl | (simp only [List.length_drop, List.length_take]; rfl)) ?_; (with_reducible refine (scullerlaw01_known.calls kj2  false _ A10.out).mono ?_); rintro e w32 ⟨rfl, hb⟩; refine ⟨_, rfl, ?_⟩) | (go_at_call 26; (with_reducible refine (scullerlaw01_known.calls kj2  false _ A10.out).mono ?_); rintro e w32 ⟨rfl, hb⟩)); have n0_ := Aside0.mk (Kd.R_below (by (with_reducible repeat (first | apply Kd.R_alloc | apply Kd.R_drewN | apply Kd.R_drew)); exact HO138.out) hb); have n1_ := Aside0.mk (below_step (by repeat (first | (with_reducible first | exact HB.out | apply below_alloc | apply pw_below_drewN | apply below_drew1) | exact HB.out)) hb); clear HO138; clear HB; have HO138 := n0_; have HB := n1_; clear n0_ n1_; (try clear hb); (try clear hb2); (try clear hk); (try clear hi)))
        go_ret
        exact ⟨by first | rfl | (simp [errW_none, errW_some] <;> rfl) | (simp [*, errW_none, errW_some] <;> rfl), by repeat (first | (with_reducible first | exact HB.out | apply below_alloc | apply pw_below_drewN | apply below_drew1) | exact HB.out)⟩

/-- THE ONE PURE STATEMENT of scullerlaw01_WordBack: yours. -/
def scullerlaw01_WordBack.Pure : Prop := ∀ (a0 : Int) (a1 : Int), (Lit.int .u64 a0).wf = true → (Lit.int .u8 a1).wf = true → ∃ k, scullerlaw01_WordBack.f k a0 a1 = some true
theorem scullerlaw01_WordBack.walk (P : scullerlaw01_WordBack.Pure) (a0 : Int) (a1 : Int) (w : World) (w0 : (Lit.int .u64 a0).wf = true) (w1 : (Lit.int .u8 a1).wf = true) :
    Calls Try.prog 9 #[.int .u64 a0, .int .u8 a1] w fun e w' => e = .returned (.bool true) ∧ Below w.heap.size w w' := by
  obtain ⟨k, h⟩ := P a0 a1 w0 w1
  refine (scullerlaw01_WordBack.calls k a0 a1 true w h).mono ?_
  rintro e w' ⟨rfl, hd⟩
  exact ⟨rfl, hd⟩

end Go.Proofs.Ytbaokbfmancjlaa.A
