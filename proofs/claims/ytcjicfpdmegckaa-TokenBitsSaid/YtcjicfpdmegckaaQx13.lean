/- Written by a program of this repo (wip/tools/gprint.py): what functions of the Go program compute, the proofs that they do, and the rows of statements. Conditions: those in each theorem. -/
import Derived.Test.YtcjicfpdmegckaaQx0
import Derived.Test.YtcjicfpdmegckaaQx12
import Derived.Test.YtcjicfpdmegckaaWFar
namespace Go.Proofs.Ytcjicfpdmegckaa.Q
open Go.RowKit Go.Proofs.YtcjicfpdmegckaaW.PrintWords Go.Proofs.YtcjicfpdmegckaaW.PrintLast Go.Proofs.YtcjicfpdmegckaaW.PrintMore
attribute [local go_sem] max2_int min2_int max_two min_two max_three min_three max_four min_four   -- for this text's walks alone
set_option linter.unusedVariables false
set_option linter.unusedSimpArgs false

/-! ### scullerref03_Set: function 116 -/
def scullerref03_Set.f (k : Nat) (l0 : List Int) (a1 : Int) : Option (List Int) := if ([] : List Int).length + l0.length < 140737488355328 then ((some (([] : List Int) ++ l0 : List Int)).bind fun y248 => (if a1 ≥ 0 then (if (wrap64 (Int.tdiv a1 8)) < (l0.length : Int) then ((scullerref03_Get.f k l0 a1).bind fun t251 => (if t251 = true then (some y248) else (if 0 ≤ (wrap64 (Int.tdiv a1 8)) then (if (wrap64 (Int.tdiv a1 8)) < (y248.length : Int) then (if 0 ≤ (IntKind.u64.wrap (Int.tmod a1 8)) then (some (y248.set ((wrap64 (Int.tdiv a1 8)) : Int).toNat (((rd y248 (wrap64 (Int.tdiv a1 8))) + (shl .u8 1 (IntKind.u64.wrap (Int.tmod a1 8)))) % 256))) else (none)) else (none)) else (none)))) else (some y248)) else (some y248))) else (none)
set_option maxHeartbeats 8000000 in
set_option maxRecDepth 100000 in
theorem scullerref03_Set.calls (k : Nat) (A0 : Option Addr) (c0 : Nat) (l0 : List Int) (a1 : Int) (r : List Int) (w : World) (hr0 : Kd.C (Kd.int .u8) w A0 l0.length l0) (hc0 : l0.length ≤ c0) (h : scullerref03_Set.f k l0 a1 = some r) :
    Calls Try.prog 116 #[.slice A0 l0.length c0, .int .i64 a1] w fun e w' => ∃ v0_ : Value, e = .returned (v0_) ∧ Kd.R (Kd.int .u8) 5 w' w.heap.size (fun _ => True) v0_ r ∧ Below w.heap.size w w' := by
  have HR0 := Aside0.mk hr0
  have HC0 := Aside0.mk hc0
  clear hr0 hc0
  have HB := Aside0.mk (Below.refl w.heap.size w)
  have H : (if ([] : List Int).length + l0.length < 140737488355328 then ((some (([] : List Int) ++ l0 : List Int)).bind fun y248 => (if a1 ≥ 0 then (if (wrap64 (Int.tdiv a1 8)) < (l0.length : Int) then ((scullerref03_Get.f k l0 a1).bind fun t251 => (if t251 = true then (some y248) else (if 0 ≤ (wrap64 (Int.tdiv a1 8)) then (if (wrap64 (Int.tdiv a1 8)) < (y248.length : Int) then (if 0 ≤ (IntKind.u64.wrap (Int.tmod a1 8)) then (some (y248.set ((wrap64 (Int.tdiv a1 8)) : Int).toNat (((rd y248 (wrap64 (Int.tdiv a1 8))) + (shl .u8 1 (IntKind.u64.wrap (Int.tmod a1 8)))) % 256))) else (none)) else (none)) else (none)))) else (some y248)) else (some y248))) else (none)) = some r := h
  clear h
  by_cases c3 : ([] : List Int).length + l0.length < 140737488355328
  · rw [if_pos c3] at H
    have LMc3 := Aside0.mk c3
    clear c3
    obtain ⟨y248, hy248⟩ : ∃ y_ : List Int, y_ = (([] : List Int) ++ l0) := ⟨_, rfl⟩
    replace H : (if a1 ≥ 0 then (if (wrap64 (Int.tdiv a1 8)) < (l0.length : Int) then ((scullerref03_Get.f k l0 a1).bind fun t251 => (if t251 = true then (some y248) else (if 0 ≤ (wrap64 (Int.tdiv a1 8)) then (if (wrap64 (Int.tdiv a1 8)) < (y248.length : Int) then (if 0 ≤ (IntKind.u64.wrap (Int.tmod a1 8)) then (some (y248.set ((wrap64 (Int.tdiv a1 8)) : Int).toNat (((rd y248 (wrap64 (Int.tdiv a1 8))) + (shl .u8 1 (IntKind.u64.wrap (Int.tmod a1 8)))) % 256))) else (none)) else (none)) else (none)))) else (some y248)) else (some y248)) = some r := by first | (rw [hy248]; with_reducible exact H) | (have H2_ := (Option.bind_some _ _).symm.trans H; rw [hy248]; with_reducible exact H2_) | (have H2_ := (Option.bind_some _ _).symm.trans H; with_reducible exact H2_) | with_reducible exact H | (rw [hy248]; exact H) | exact H
    have Ny248 := Aside0.mk hy248
    clear hy248
    by_cases c4 : a1 ≥ 0
    · rw [if_pos c4] at H
      have c4b0 : decide (0 ≤ a1) = true := decide_eq_true c4
      clear c4
      by_cases c5 : (wrap64 (Int.tdiv a1 8)) < (l0.length : Int)
      · rw [if_pos c5] at H
        have c5b0 : decide ((wrap64 (Int.tdiv a1 8)) < (l0.length : Int)) = true := decide_eq_true c5
        clear c5
        replace H := Option.bind_eq_some_iff.mp H
        obtain ⟨t251, A60, H⟩ := H
        replace H : (if t251 = true then (some y248) else (if 0 ≤ (wrap64 (Int.tdiv a1 8)) then (if (wrap64 (Int.tdiv a1 8)) < (y248.length : Int) then (if 0 ≤ (IntKind.u64.wrap (Int.tmod a1 8)) then (some (y248.set ((wrap64 (Int.tdiv a1 8)) : Int).toNat (((rd y248 (wrap64 (Int.tdiv a1 8))) + (shl .u8 1 (IntKind.u64.wrap (Int.tmod a1 8)))) % 256))) else (none)) else (none)) else (none))) = some r := H
        have A6 := Aside0.mk A60
        clear A60
        by_cases c7 : t251 = true
        · subst c7
          have H1 : (some y248) = some r := by rw [if_pos rfl] at H; exact H
          clear H
          have H := H1
          clear H1
          obtain rfl := Option.some.inj H
          go_enter Try.func116, Try.ntmps116
          go_wp2_with (first | ((with_reducible refine gate_builtin (b := .append) (xs := #[.tmp 6, .tmp 7]) rfl ?_); (try (refine gate_guard (by rfl) ?_; dsimp only)); at_builtin; refine Kd.R_append_rows (Kd.int .u8) (w0 := w) w.heap.size rfl (.tmp 6) (.tmp 7) 29 5 (.int .u8 0) 1 rfl Try.underlying29 info5 rfl (by decide) (by omega) (.slice none 0 0) ([] : List Int) l0 _ _ _ (fun _ => True) (fun _ => False) rfl rfl ?aO ?aR (fun _ _ h => h) (fun _ h => h.elim) ?aF ?aB ?aS ?aL ?_; (case aR => repeat (first | exact HR0.out | (with_reducible refine Kd.C_alloc ?_ _) | (with_reducible refine Kd.C_drewN ?_ _) | (with_reducible refine Kd.C_drew ?_))); (case aB => exact (Far.Bb HB.out)); (case aF => exact (fun _ _ => trivial)); (case aO => exact ((Kd.R_nil _ _ _ _ (fun _ => True)))); (case aS => exact (below_size (Far.Bb HB.out))); (case aL => have := LMc3.out; omega); intro v249 w8 ho hb hg hat; rw [← Ny248.out] at ho; have n0_ := Aside0.mk (hb); have n1_ := Aside0.mk (ho); clear HB; have HB := n0_; have HO250 := n1_; clear n0_ n1_; clear ho hb hg hat) | (go_at_call 147; (with_reducible refine (scullerref03_Get.calls k _ _ l0 a1 true _ ?side1 ?side2 A6.out).mono ?_); (case side1 => repeat (first | exact (Kd.C_below HR0.out HB.out) | (with_reducible refine Kd.C_alloc ?_ _) | (with_reducible refine Kd.C_drewN ?_ _) | (with_reducible refine Kd.C_drew ?_))); (case side2 => exact HC0.out); rintro e w' ⟨rfl, ⟨nd, rfl⟩⟩))
          go_ret
          exact ⟨_, by first | rfl | (simp [errW_none, errW_some] <;> rfl) | (simp [*, errW_none, errW_some] <;> rfl) | (refine congrArg (fun z_ : Int => Ending.returned (.bool (z_ == _))) ?_; simp only [IntKind.wrap, IntKind.bits, IntKind.signed]; simp <;> omega), by (with_reducible repeat (first | apply Kd.R_alloc | apply Kd.R_drewN | apply Kd.R_drew)); exact HO250.out, by repeat (first | (with_reducible first | exact HB.out | apply below_alloc | apply pw_below_drewN | apply below_drew1) | exact HB.out)⟩
        · replace c7 := Bool.eq_false_iff.mpr c7
          subst c7
          have H1 : (if 0 ≤ (wrap64 (Int.tdiv a1 8)) then (if (wrap64 (Int.tdiv a1 8)) < (y248.length : Int) then (if 0 ≤ (IntKind.u64.wrap (Int.tmod a1 8)) then (some (y248.set ((wrap64 (Int.tdiv a1 8)) : Int).toNat (((rd y248 (wrap64 (Int.tdiv a1 8))) + (shl .u8 1 (IntKind.u64.wrap (Int.tmod a1 8)))) % 256))) else (none)) else (none)) else (none)) = some r := by rw [if_neg (show ¬ (false = true) by decide)] at H; exact H
          clear H
          have H := H1
          clear H1
          obtain ⟨ji9, hji9⟩ : ∃ j_ : Int, (wrap64 (Int.tdiv a1 8)) = j_ := ⟨_, rfl⟩
          replace H : (if 0 ≤ (ji9) then (if (ji9) < (y248.length : Int) then (if 0 ≤ (IntKind.u64.wrap (Int.tmod a1 8)) then (some (y248.set ((ji9) : Int).toNat (((rd y248 (ji9)) + (shl .u8 1 (IntKind.u64.wrap (Int.tmod a1 8)))) % 256))) else (none)) else (none)) else (none)) = some r := by first | (rw [hji9] at H; exact H) | (simp only [hji9] at H ⊢; exact H)
          (try rw [hji9] at c5b0)
          (try rw [hji9] at A6)
          have hji9w : (IntKind.i64.wrap (Int.tdiv a1 8)) = ji9 := (i64_w _).trans hji9
          by_cases c10 : 0 ≤ (ji9)
          · rw [if_pos c10] at H
            have c10b0 : decide (0 ≤ (ji9)) = true := decide_eq_true c10
            clear c10
            by_cases c11 : (ji9) < (y248.length : Int)
            · rw [if_pos c11] at H
              have c11b0 : decide ((ji9) < (y248.length : Int)) = true := decide_eq_true c11
              clear c11
              obtain ⟨ji12, hji12⟩ : ∃ j_ : Int, (IntKind.u64.wrap (Int.tmod a1 8)) = j_ := ⟨_, rfl⟩
              replace H : (if 0 ≤ (ji12) then (some (y248.set ((ji9) : Int).toNat (((rd y248 (ji9)) + (shl .u8 1 (ji12))) % 256))) else (none)) = some r := by first | (rw [hji12] at H; exact H) | (simp only [hji12] at H ⊢; exact H)
              (try rw [hji12] at A6)
              by_cases c13 : 0 ≤ (ji12)
              · rw [if_pos c13] at H
                have c13b0 := eq_true c13
                have c13b1 : decide (0 ≤ (ji12)) = true := decide_eq_true c13
                clear c13
                obtain ⟨ji14, hji14⟩ : ∃ j_ : Int, (shl .u8 1 (ji12)) = j_ := ⟨_, rfl⟩
                replace H : (some (y248.set ((ji9) : Int).toNat (((rd y248 (ji9)) + (ji14)) % 256))) = some r := by first | (rw [hji14] at H; exact H) | (simp only [hji14] at H ⊢; exact H)
                (try rw [hji14] at A6)
                have hji14_ : (IntKind.u8.wrap (1 * 2 ^ min (ji12).toNat 8)) = ji14 := hji14
                (try have hji14p : (0 ≤ ((ji12))) = True := eq_true (by omega))
                have hji14z : (ji12) ≤ 8 → (IntKind.u8.wrap (1 * 2 ^ (ji12).toNat)) = ji14 := shl_small hji14
                have hji14u : (IntKind.u8.wrap (2 ^ min (ji12).toNat 8)) = ji14 := by have h_ := hji14_; rw [Int.one_mul] at h_; exact h_
                have hji14v : (ji12) ≤ 8 → (IntKind.u8.wrap (2 ^ (ji12).toNat)) = ji14 := fun hle_ => by have h_ := hji14z hle_; rw [Int.one_mul] at h_; exact h_
                obtain ⟨y253, hy253⟩ : ∃ y_ : List Int, y_ = (y248.set ((ji9) : Int).toNat (((rd y248 (ji9)) + (ji14)) % 256)) := ⟨_, rfl⟩
                replace H : (some y253) = some r := by first | (rw [hy253]; with_reducible exact H) | (have H2_ := (Option.bind_some _ _).symm.trans H; rw [hy253]; with_reducible exact H2_) | (have H2_ := (Option.bind_some _ _).symm.trans H; with_reducible exact H2_) | with_reducible exact H | (rw [hy253]; exact H) | exact H
                have Ny253 := Aside0.mk hy253
                clear hy253
                obtain rfl := Option.some.inj H
                go_enter Try.func116, Try.ntmps116
                go_wp2_with (first | ((with_reducible refine gate_builtin (b := .append) (xs := #[.tmp 6, .tmp 7]) rfl ?_); (try (refine gate_guard (by rfl) ?_; dsimp only)); at_builtin; refine Kd.R_append_rows (Kd.int .u8) (w0 := w) w.heap.size rfl (.tmp 6) (.tmp 7) 29 5 (.int .u8 0) 1 rfl Try.underlying29 info5 rfl (by decide) (by omega) (.slice none 0 0) ([] : List Int) l0 _ _ _ (fun _ => True) (fun _ => False) rfl rfl ?aO ?aR (fun _ _ h => h) (fun _ h => h.elim) ?aF ?aB ?aS ?aL ?_; (case aR => repeat (first | exact HR0.out | (with_reducible refine Kd.C_alloc ?_ _) | (with_reducible refine Kd.C_drewN ?_ _) | (with_reducible refine Kd.C_drew ?_))); (case aB => exact (Far.Bb HB.out)); (case aF => exact (fun _ _ => trivial)); (case aO => exact ((Kd.R_nil _ _ _ _ (fun _ => True)))); (case aS => exact (below_size (Far.Bb HB.out))); (case aL => have := LMc3.out; omega); intro v249 w16 ho hb hg hat; rw [← Ny248.out] at ho; have n0_ := Aside0.mk (hb); have n1_ := Aside0.mk (ho); clear HB; have HB := n0_; have HO250 := n1_; clear n0_ n1_; clear ho hb hg hat) | (go_at_call 147; (with_reducible refine (scullerref03_Get.calls k _ _ l0 a1 false _ ?side1 ?side2 A6.out).mono ?_); (case side1 => repeat (first | exact (Kd.C_below HR0.out HB.out) | (with_reducible refine Kd.C_alloc ?_ _) | (with_reducible refine Kd.C_drewN ?_ _) | (with_reducible refine Kd.C_drew ?_))); (case side2 => exact HC0.out); rintro e w' ⟨rfl, ⟨nd, rfl⟩⟩; (try (rw [drewN_self w16]; generalize hq_ : World.drewN w16 _ = w16; have n0_ : Aside0 (Kd.R (Kd.int .u8) 5 w16 w.heap.size (fun _ => True) v249 y248) := ⟨by rw [← hq_]; exact (Far.Ra HO250.out)⟩; have n1_ : Aside0 (Below w.heap.size w w16) := ⟨by rw [← hq_]; exact (Far.Bb HB.out)⟩; clear HO250 HB hq_; have HO250 := n0_; have HB := n1_; clear n0_ n1_)); obtain ⟨Ao17, co17, eo17⟩ := Kd.R_slice HO250.out; subst eo17; have p252 : 0 ≤ ((ji9) : Int) := of_decide_eq_true (by first | (with_reducible assumption) | assumption); have q252 : (ji9) < (y248.length : Int) := of_decide_eq_true (by first | (with_reducible assumption) | assumption); obtain ⟨ad252, e252, hx252_0⟩ := Kd.at_int (Kd.R_reads' HO250.out).2.2 (ji9) p252 q252; cases e252; replace p252 := eq_true p252; replace q252 := eq_true q252; have p15 : 0 ≤ ((ji9) : Int) := of_decide_eq_true (by first | (with_reducible assumption) | assumption); have q15 : ((ji9) : Int) < ((y248.length : Int) : Int) := of_decide_eq_true (by first | (with_reducible assumption) | assumption); obtain ⟨go15, co15, eo15, gb15, gl15, cl15, HG15⟩ := Kd.R_form HO250.out (by omega); (first | cases eo15 | (injection eo15 with ea_ en_ ec_; (first | subst ea_ | (injection ea_ with ea_; subst ea_)); subst ec_; clear en_)); have GB15 := Aside0.mk gb15; have GG15 := Aside0.mk HG15; clear gb15 gl15 HG15; (first | simp only [add_plain] at hx252_0 | skip); obtain ⟨hx15_0, hf15_0⟩ := Kd.R_celln 0 HO250.out ((ji9) : Int) p15 q15; replace p15 := eq_true p15; replace q15 := eq_true q15; obtain ⟨hy18_, hz18_⟩ := Kd.R_celln 0 HO250.out ((ji9) : Int) (of_decide_eq_true (by first | (with_reducible assumption) | assumption)) (of_decide_eq_true (by first | (with_reducible assumption) | assumption)); have HP18 := Kd.R_putg HO250.out ((ji9) : Int) (((rd y248 (ji9)) + (ji14)) % 256)) | ((with_reducible refine gate_store (t := 5) (p := 34) rfl ?_); refine store_event (t := 5) (p := 34) (v := ?vo_w19) (w1 := (w16.setCell ⟨go15, ((ji9) : Int).toNat, none⟩ (.int .u8 (((rd y248 (ji9)) + (ji14)) % 256)))) ?hg ?ho ?hn ?hr ?_; (case ho => rfl); (case hg => rfl); (case hn => rfl); (case hr => first | (go_simp; done) | (go_simp; rfl)); intro w19 hw; have hg : w16.grownBy w19 (some go15) := (by rw [hw]; exact HP18.2); have hp_ : Kd.R (Kd.int .u8) 5 w19 w.heap.size (fun _ => True) (.slice (some ⟨go15, 0, none⟩) y248.length co17) y253 := (by rw [hw, Ny253.out]; exact HP18.1); clear HP18; have n0_ := Aside0.mk (hp_); have n1_ := Aside0.mk ((by rw [hw]; exact below_set (HB.out) GB15.out : Below w.heap.size w w19)); clear HO250 HB; have HO250 := n0_; have HB := n1_; clear n0_ n1_; clear hg hw hp_))
                go_ret
                exact ⟨_, by first | rfl | (simp [errW_none, errW_some] <;> rfl) | (simp only [← hji9, ← hji12, ← hji14]; first | rfl | (simp [errW_none, errW_some] <;> rfl)) | (simp [*, errW_none, errW_some] <;> rfl), by (with_reducible repeat (first | apply Kd.R_alloc | apply Kd.R_drewN | apply Kd.R_drew)); exact HO250.out, by repeat (first | (with_reducible first | exact HB.out | apply below_alloc | apply pw_below_drewN | apply below_drew1) | exact HB.out)⟩
              · rw [if_neg c13] at H
                exact absurd H (by simp)
            · rw [if_neg c11] at H
              exact absurd H (by simp)
          · rw [if_neg c10] at H
            exact absurd H (by simp)
      · rw [if_neg c5] at H
        have c5b0 : decide ((wrap64 (Int.tdiv a1 8)) < (l0.length : Int)) = false := decide_eq_false c5
        clear c5
        obtain rfl := Option.some.inj H
        go_enter Try.func116, Try.ntmps116
        go_wp2_with (first | ((with_reducible refine gate_builtin (b := .append) (xs := #[.tmp 6, .tmp 7]) rfl ?_); (try (refine gate_guard (by rfl) ?_; dsimp only)); at_builtin; refine Kd.R_append_rows (Kd.int .u8) (w0 := w) w.heap.size rfl (.tmp 6) (.tmp 7) 29 5 (.int .u8 0) 1 rfl Try.underlying29 info5 rfl (by decide) (by omega) (.slice none 0 0) ([] : List Int) l0 _ _ _ (fun _ => True) (fun _ => False) rfl rfl ?aO ?aR (fun _ _ h => h) (fun _ h => h.elim) ?aF ?aB ?aS ?aL ?_; (case aR => repeat (first | exact HR0.out | (with_reducible refine Kd.C_alloc ?_ _) | (with_reducible refine Kd.C_drewN ?_ _) | (with_reducible refine Kd.C_drew ?_))); (case aB => exact (Far.Bb HB.out)); (case aF => exact (fun _ _ => trivial)); (case aO => exact ((Kd.R_nil _ _ _ _ (fun _ => True)))); (case aS => exact (below_size (Far.Bb HB.out))); (case aL => have := LMc3.out; omega); intro v249 w20 ho hb hg hat; rw [← Ny248.out] at ho; have n0_ := Aside0.mk (hb); have n1_ := Aside0.mk (ho); clear HB; have HB := n0_; have HO250 := n1_; clear n0_ n1_; clear ho hb hg hat))
        go_ret
        exact ⟨_, by first | rfl | (simp [errW_none, errW_some] <;> rfl) | (simp [*, errW_none, errW_some] <;> rfl) | (refine congrArg (fun z_ : Int => Ending.returned (.bool (z_ == _))) ?_; simp only [IntKind.wrap, IntKind.bits, IntKind.signed]; simp <;> omega), by (with_reducible repeat (first | apply Kd.R_alloc | apply Kd.R_drewN | apply Kd.R_drew)); exact HO250.out, by repeat (first | (with_reducible first | exact HB.out | apply below_alloc | apply pw_below_drewN | apply below_drew1) | exact HB.out)⟩
    · rw [if_neg c4] at H
      have c4b0 : decide (0 ≤ a1) = false := decide_eq_false c4
      clear c4
      obtain rfl := Option.some.inj H
      go_enter Try.func116, Try.ntmps116
      go_wp2_with (first | ((with_reducible refine gate_builtin (b := .append) (xs := #[.tmp 6, .tmp 7]) rfl ?_); (try (refine gate_guard (by rfl) ?_; dsimp only)); at_builtin; refine Kd.R_append_rows (Kd.int .u8) (w0 := w) w.heap.size rfl (.tmp 6) (.tmp 7) 29 5 (.int .u8 0) 1 rfl Try.underlying29 info5 rfl (by decide) (by omega) (.slice none 0 0) ([] : List Int) l0 _ _ _ (fun _ => True) (fun _ => False) rfl rfl ?aO ?aR (fun _ _ h => h) (fun _ h => h.elim) ?aF ?aB ?aS ?aL ?_; (case aR => repeat (first | exact HR0.out | (with_reducible refine Kd.C_alloc ?_ _) | (with_reducible refine Kd.C_drewN ?_ _) | (with_reducible refine Kd.C_drew ?_))); (case aB => exact (Far.Bb HB.out)); (case aF => exact (fun _ _ => trivial)); (case aO => exact ((Kd.R_nil _ _ _ _ (fun _ => True)))); (case aS => exact (below_size (Far.Bb HB.out))); (case aL => have := LMc3.out; omega); intro v249 w21 ho hb hg hat; rw [← Ny248.out] at ho; have n0_ := Aside0.mk (hb); have n1_ := Aside0.mk (ho); clear HB; have HB := n0_; have HO250 := n1_; clear n0_ n1_; clear ho hb hg hat))
      go_ret
      exact ⟨_, by first | rfl | (simp [errW_none, errW_some] <;> rfl) | (simp [*, errW_none, errW_some] <;> rfl) | (refine congrArg (fun z_ : Int => Ending.returned (.bool (z_ == _))) ?_; simp only [IntKind.wrap, IntKind.bits, IntKind.signed]; simp <;> omega), by (with_reducible repeat (first | apply Kd.R_alloc | apply Kd.R_drewN | apply Kd.R_drew)); exact HO250.out, by repeat (first | (with_reducible first | exact HB.out | apply below_alloc | apply pw_below_drewN | apply below_drew1) | exact HB.out)⟩
  · rw [if_neg c3] at H
    exact absurd H (by simp)

/-! ### scullerref02_Step: function 45 -/
def scullerref02_Step.f (a0 : Int) : Option (Int) := if (Int.tmod a0 2) = 1 then (some (Go.bits .xor .u32 ((Int.tdiv a0 2) % 4294967296) 2197175160)) else (some ((Int.tdiv a0 2) % 4294967296))
set_option maxHeartbeats 8000000 in
set_option maxRecDepth 100000 in
theorem scullerref02_Step.calls (a0 : Int) (r : Int) (w : World) (h : scullerref02_Step.f a0 = some r) :
    Calls Try.prog 45 #[.int .u32 a0] w fun e w' => e = .returned (.int .u32 r) ∧ Drawn0 w w' := by
  have H : (if (Int.tmod a0 2) = 1 then (some (Go.bits .xor .u32 ((Int.tdiv a0 2) % 4294967296) 2197175160)) else (some ((Int.tdiv a0 2) % 4294967296))) = some r := h
  clear h
  by_cases c2 : (Int.tmod a0 2) = 1
  · rw [if_pos c2] at H
    have c2b0 : ((Int.tmod a0 2) == 1) = true := beq_iff_eq.mpr c2
    have c2b1 : ((Int.tmod a0 2) != 1) = false := bne_eq_false_iff_eq.mpr c2
    clear c2
    obtain rfl := Option.some.inj H
    go_enter Try.func45, Try.ntmps45
    go_wp2
    go_ret
    exact ⟨by first | rfl | (simp; done) | (simp [*]; done), by repeat (first | exact Drawn0.refl _ | apply Drawn0.step)⟩
  · rw [if_neg c2] at H
    have c2b0 : ((Int.tmod a0 2) == 1) = false := beq_eq_false_iff_ne.mpr c2
    have c2b1 : ((Int.tmod a0 2) != 1) = true := bne_iff_ne.mpr c2
    obtain rfl := Option.some.inj H
    go_enter Try.func45, Try.ntmps45
    go_wp2
    go_ret
    exact ⟨by first | rfl | (simp; done) | (simp [*]; done), by repeat (first | exact Drawn0.refl _ | apply Drawn0.step)⟩

/-! ### scullerref02_More: function 47 -/
mutual
def scullerref02_More.l0 : Nat → Int → List Int → Int → Option (Int)
  | 0, _, _, _ => none
  | k + 1, x0, x1, x5 => if x5 < (x1.length : Int) then (if 0 ≤ x5 then (scullerref02_More.l1 k (Go.bits .xor .u32 x0 ((rd x1 x5) % 4294967296)) x1 x5 0) else (none)) else (some (Go.bits .xor .u32 x0 4294967295))
def scullerref02_More.l1 : Nat → Int → List Int → Int → Int → Option (Int)
  | 0, _, _, _, _ => none
  | k + 1, x0, x1, x5, x6 => if x6 < 8 then ((scullerref02_Step.f x0).bind fun t255 => (scullerref02_More.l1 k t255 x1 x5 (wrap64 (x6 + 1)))) else (scullerref02_More.l0 k x0 x1 (wrap64 (x5 + 1)))
end
def scullerref02_More.f (k : Nat) (a0 : Int) (l1 : List Int) : Option (Int) := scullerref02_More.l0 k (Go.bits .xor .u32 a0 4294967295) l1 0
set_option maxHeartbeats 8000000 in
set_option maxRecDepth 100000 in
theorem scullerref02_More.calls (k : Nat) (a0 : Int) (A1 : Option Addr) (c1 : Nat) (l1 : List Int) (r : Int) (w : World) (hr1 : Kd.C (Kd.int .u8) w A1 l1.length l1) (hc1 : l1.length ≤ c1) (h : scullerref02_More.f k a0 l1 = some r) :
    Calls Try.prog 47 #[.int .u32 a0, .slice A1 l1.length c1] w fun e w' => e = .returned (.int .u32 r) ∧ Drawn0 w w' := by
  have HR1 := Aside0.mk hr1
  have HC1 := Aside0.mk hc1
  clear hr1 hc1
  have H : (scullerref02_More.l0 k (Go.bits .xor .u32 a0 4294967295) l1 0) = some r := h
  clear h
  have H' := Aside0.mk H
  clear H
  go_enter Try.func47, Try.ntmps47
  go_wp2
  go_loopg [0, 5] k (fun kq v0 v5 w' => ∃ (x0_1 : Int) (x5_1 : Int), v0 = .int .u32 x0_1 ∧ v5 = .int .i64 x5_1 ∧ Aside0 (scullerref02_More.l0 kq x0_1 l1 x5_1 = some r) ∧ Aside0 (kq ≤ k) ∧ Drawn0 w w')
  case atStart => exact ⟨(Go.bits .xor .u32 a0 4294967295), (0), (by first | rfl | (simp; done) | (simp [*]; done)), (by first | rfl | (simp; done) | (simp [*]; done)), H', ⟨Nat.le_refl _⟩, by repeat (first | exact Drawn0.refl _ | apply Drawn0.step)⟩
  case round =>
    clear H'; (try clear c1); (try clear p2)
    obtain ⟨x0_1, x5_1, rfl, rfl, HA, HK1, ⟨m1, rfl⟩⟩ := hrel
    cases gk with
    | zero => exact absurd HA.out (by simp [scullerref02_More.l0])
    | succ k1 =>
      have H := HA.out
      clear HA
      simp only [scullerref02_More.l0] at H
      by_cases c3 : x5_1 < (l1.length : Int)
      · rw [if_pos c3] at H
        have c3b0 : decide (x5_1 < (l1.length : Int)) = true := decide_eq_true c3
        clear c3
        by_cases c4 : 0 ≤ x5_1
        · rw [if_pos c4] at H
          have c4b0 : decide (0 ≤ x5_1) = true := decide_eq_true c4
          clear c4
          have H' := Aside0.mk H
          clear H
          have p254 : 0 ≤ (x5_1 : Int) := of_decide_eq_true (by first | (with_reducible assumption) | assumption)
          have q254 : x5_1 < (l1.length : Int) := of_decide_eq_true (by first | (with_reducible assumption) | assumption)
          obtain ⟨ad254, e254, hx254_0⟩ := Kd.at_int HR1.out x5_1 p254 q254
          cases e254
          replace p254 := eq_true p254
          replace q254 := eq_true q254
          go_wp2
          go_loopg [0, 6] k1 (fun kq v0 v6 w' => ∃ (x0_2 : Int) (x6_2 : Int), v0 = .int .u32 x0_2 ∧ v6 = .int .i64 x6_2 ∧ Aside0 (scullerref02_More.l1 kq x0_2 l1 x5_1 x6_2 = some r) ∧ Aside0 (kq ≤ k1) ∧ Drawn0 w w')
          case atStart => exact ⟨(Go.bits .xor .u32 x0_1 ((rd l1 x5_1) % 4294967296)), (0), (by first | rfl | (simp; done) | (simp [*]; done)), (by first | rfl | (simp; done) | (simp [*]; done)), H', ⟨Nat.le_refl _⟩, by repeat (first | exact Drawn0.refl _ | apply Drawn0.step)⟩
          case round =>
            clear H'; (try clear c1); (try clear p2); (try clear q2); (try clear hx2); (try clear c3); (try clear c3b0); (try clear c4); (try clear c4b0); (try clear hx254_0); (try clear p2); (try clear p254); (try clear q254)
            obtain ⟨x0_2, x6_2, rfl, rfl, HA, HK2, ⟨m2, rfl⟩⟩ := hrel
            cases gk with
            | zero => exact absurd HA.out (by simp [scullerref02_More.l1])
            | succ k2 =>
              have H := HA.out
              clear HA
              simp only [scullerref02_More.l1] at H
              by_cases c5 : x6_2 < 8
              · rw [if_pos c5] at H
                have c5b0 : decide (x6_2 < 8) = true := decide_eq_true c5
                clear c5
                replace H := Option.bind_eq_some_iff.mp H
                obtain ⟨t255, A60, H⟩ := H
                replace H : (scullerref02_More.l1 k2 t255 l1 x5_1 (wrap64 (x6_2 + 1))) = some r := H
                have A6 := Aside0.mk A60
                clear A60
                have H' := Aside0.mk H
                clear H
                go_wp2_with (first | ((with_reducible refine gate_callee (f := 45) rfl ?_); refine goesL_ (some 27) rfl rfl Try.func45 (by kernel_rfl) rfl #[.int .u32 x0_2] rfl (by (try simp only [List.map_toArray, List.map_cons, List.map_nil]); first | done | rfl | (simp only [List.length_drop, List.length_take]; rfl)) ?_; (with_reducible refine (scullerref02_Step.calls x0_2 t255 _ A6.out).mono ?_); rintro e w' ⟨rfl, ⟨nd, rfl⟩⟩; refine ⟨_, rfl, ?_⟩))
                go_roundg k2
                case measure => have := HK1.out; have := HK2.out; omega
                case rel => exact ⟨(t255), (wrap64 (x6_2 + 1)), (by first | rfl | (simp; done) | (simp [*]; done)), (by first | rfl | (simp; done) | (simp [*]; done)), H', ⟨by have := HK1.out; have := HK2.out; omega⟩, by repeat (first | exact Drawn0.refl _ | apply Drawn0.step)⟩
              · rw [if_neg c5] at H
                have c5b0 : decide (x6_2 < 8) = false := decide_eq_false c5
                clear c5
                have H' := Aside0.mk H
                clear H
                go_wp2
                go_roundg k2
                case measure => have := HK1.out; have := HK2.out; omega
                case rel => exact ⟨(x0_2), (wrap64 (x5_1 + 1)), (by first | rfl | (simp; done) | (simp [*]; done)), (by first | rfl | (simp; done) | (simp [*]; done)), H', ⟨by have := HK1.out; have := HK2.out; omega⟩, by repeat (first | exact Drawn0.refl _ | apply Drawn0.step)⟩
        · rw [if_neg c4] at H
          exact absurd H (by simp)
      · rw [if_neg c3] at H
        have c3b0 : decide (x5_1 < (l1.length : Int)) = false := decide_eq_false c3
        clear c3
        obtain rfl := Option.some.inj H
        go_wp2
        go_ret
        exact ⟨by first | rfl | (simp; done) | (simp [*]; done), by repeat (first | exact Drawn0.refl _ | apply Drawn0.step)⟩

/-! ### scullerref02_Sum: function 49 -/
def scullerref02_Sum.f (k : Nat) (l0 : List Int) : Option (Int) := (scullerref02_More.f k 0 l0).bind fun t256 => (some t256)
set_option maxHeartbeats 8000000 in
set_option maxRecDepth 100000 in
theorem scullerref02_Sum.calls (k : Nat) (A0 : Option Addr) (c0 : Nat) (l0 : List Int) (r : Int) (w : World) (hr0 : Kd.C (Kd.int .u8) w A0 l0.length l0) (hc0 : l0.length ≤ c0) (h : scullerref02_Sum.f k l0 = some r) :
    Calls Try.prog 49 #[.slice A0 l0.length c0] w fun e w' => e = .returned (.int .u32 r) ∧ Drawn0 w w' := by
  have HR0 := Aside0.mk hr0
  have HC0 := Aside0.mk hc0
  clear hr0 hc0
  have H : ((scullerref02_More.f k 0 l0).bind fun t256 => (some t256)) = some r := h
  clear h
  replace H := Option.bind_eq_some_iff.mp H
  obtain ⟨t256, A20, H⟩ := H
  replace H : (some t256) = some r := H
  have A2 := Aside0.mk A20
  clear A20
  obtain rfl := Option.some.inj H
  go_enter Try.func49, Try.ntmps49
  go_wp2_with (first | ((with_reducible refine gate_callee (f := 47) rfl ?_); refine goesL_ (some 4) rfl rfl Try.func47 (by kernel_rfl) rfl #[.int .u32 0, .slice A0 l0.length c0] rfl (by (try simp only [List.map_toArray, List.map_cons, List.map_nil]); first | done | rfl | (simp only [List.length_drop, List.length_take]; rfl)) ?_; (with_reducible refine (scullerref02_More.calls k 0 _ _ l0 t256 _ ?side1 ?side2 A2.out).mono ?_); (case side1 => repeat (first | exact HR0.out | (with_reducible refine Kd.C_alloc ?_ _) | (with_reducible refine Kd.C_drewN ?_ _) | (with_reducible refine Kd.C_drew ?_))); (case side2 => exact HC0.out); rintro e w' ⟨rfl, ⟨nd, rfl⟩⟩; refine ⟨_, rfl, ?_⟩))
  go_ret
  exact ⟨by first | rfl | (simp; done) | (simp [*]; done), by repeat (first | exact Drawn0.refl _ | apply Drawn0.step)⟩

/-! ### scullerref07_Sizes: function 65 -/
def scullerref07_Sizes.l0 : Nat → List (List Int) → List Int → Int → Option (List Int)
  | 0, _, _, _ => none
  | k + 1, x0, x3, x4 => if x4 < (x0.length : Int) then (if 0 ≤ x4 then (if x3.length < 17592186044416 then (scullerref07_Sizes.l0 k x0 (x3 ++ [((rd_L4 x0 x4).length : Int)]) (wrap64 (x4 + 1))) else (none)) else (none)) else (some x3)
def scullerref07_Sizes.f (k : Nat) (l0 : List (List Int)) : Option (List Int) := scullerref07_Sizes.l0 k l0 ([] : List Int) 0
set_option maxHeartbeats 8000000 in
set_option maxRecDepth 100000 in
theorem scullerref07_Sizes.calls (k : Nat) (A0 : Option Addr) (c0 : Nat) (l0 : List (List Int)) (r : List Int) (w : World) (hr0 : Kd.C (Kd.slice 22 (Kd.int .u64)) w A0 l0.length l0) (hc0 : l0.length ≤ c0) (h : scullerref07_Sizes.f k l0 = some r) :
    Calls Try.prog 65 #[.slice A0 l0.length c0] w fun e w' => ∃ v0_ : Value, e = .returned (v0_) ∧ Kd.R (Kd.int .i64) 3 w' w.heap.size (fun _ => True) v0_ r ∧ Below w.heap.size w w' := by
  have HR0 := Aside0.mk hr0
  have HC0 := Aside0.mk hc0
  clear hr0 hc0
  have HB := Aside0.mk (Below.refl w.heap.size w)
  have H : (scullerref07_Sizes.l0 k l0 ([] : List Int) 0) = some r := h
  clear h
  have H' := Aside0.mk H
  clear H
  go_enter Try.func65, Try.ntmps65
  go_wp2
  go_loopg [3, 4] k (fun kq v3 v4 w' => ∃ (x3_1 : List Int) (x4_1 : Int), v4 = .int .i64 x4_1 ∧ Aside0 (scullerref07_Sizes.l0 kq l0 x3_1 x4_1 = some r) ∧ Aside0 (kq ≤ k) ∧ Aside0 (Kd.R (Kd.int .i64) 3 w' w.heap.size (fun _ => True) v3 x3_1) ∧ Aside0 (Below w.heap.size w w'))
  case atStart => exact ⟨(([] : List Int)), (0), (by first | rfl | (simp; done) | (simp [*]; done)), H', ⟨Nat.le_refl _⟩, ⟨by first | exact Kd.R_nil _ _ _ _ _ | exact Kd.N_nil _ _ _ _ _ | exact Kd.V_nil _ _ _ _ _ | exact Kd.Q_nil _ _ _ _ _ | exact Kd.S_nil _ _ _ _ _⟩, ⟨by repeat (first | (with_reducible first | exact HB.out | apply below_alloc | apply pw_below_drewN | apply below_drew1) | exact HB.out)⟩⟩
  case round =>
    clear H'
    obtain ⟨x3_1, x4_1, rfl, HA, HK1, HO_3, HB⟩ := hrel
    cases gk with
    | zero => exact absurd HA.out (by simp [scullerref07_Sizes.l0])
    | succ k1 =>
      have H := HA.out
      clear HA
      simp only [scullerref07_Sizes.l0] at H
      by_cases c2 : x4_1 < (l0.length : Int)
      · rw [if_pos c2] at H
        have c2b0 : decide (x4_1 < (l0.length : Int)) = true := decide_eq_true c2
        clear c2
        by_cases c3 : 0 ≤ x4_1
        · rw [if_pos c3] at H
          have c3b0 : decide (0 ≤ x4_1) = true := decide_eq_true c3
          clear c3
          by_cases c4 : x3_1.length < 17592186044416
          · rw [if_pos c4] at H
            have LMc4 := Aside0.mk c4
            clear c4
            obtain ⟨y258, hy258⟩ : ∃ y_ : List Int, y_ = (x3_1 ++ [((rd_L4 l0 x4_1).length : Int)]) := ⟨_, rfl⟩
            replace H : (scullerref07_Sizes.l0 k1 l0 y258 (wrap64 (x4_1 + 1))) = some r := by first | (rw [hy258]; with_reducible exact H) | (have H2_ := (Option.bind_some _ _).symm.trans H; rw [hy258]; with_reducible exact H2_) | (have H2_ := (Option.bind_some _ _).symm.trans H; with_reducible exact H2_) | with_reducible exact H | (rw [hy258]; exact H) | exact H
            have Ny258 := Aside0.mk hy258
            clear hy258
            have H' := Aside0.mk H
            clear H
            have p257 : 0 ≤ (x4_1 : Int) := of_decide_eq_true (by first | (with_reducible assumption) | assumption)
            have q257 : x4_1 < (l0.length : Int) := of_decide_eq_true (by first | (with_reducible assumption) | assumption)
            obtain ⟨ad257, A257_0, c257_0, e257, hx257_0, hl257_0, hi257_0⟩ := at_L4 HR0.out x4_1 p257 q257
            cases e257
            replace hx257_0 := (HB.out.cell (World.block_lt_of_cell? w _ hx257_0)).trans hx257_0
            have HR257_0 := Aside0.mk hi257_0
            have HC257_0 := Aside0.mk hl257_0
            clear hi257_0 hl257_0
            replace p257 := eq_true p257
            replace q257 := eq_true q257
            go_wp2_with (first | ((with_reducible refine gate_builtin (b := .append) (xs := #[.tmp 11, .tmp 17]) rfl ?_); at_builtin; refine Kd.R_append (Kd.int .i64) (w0 := w) w.heap.size rfl (.tmp 11) (.tmp 17) 52 3 (.int .i64 0) 8 rfl Try.underlying52 info3 rfl (by decide) (by omega) u3 x3_1 ((rd_L4 l0 x4_1).length : Int) [.int .i64 ((rd_L4 l0 x4_1).length : Int)] (fun _ => True) (fun _ => False) rfl rfl ?aP (fun _ hk => hk.elim) ?aF ?aO ?aB ?aS ?aL ?_; (case aP => exact rfl); (case aB => exact (Far.Bb HB.out)); (case aF => exact (fun _ _ => trivial)); (case aO => exact (Far.Ra HO_3.out)); (case aS => exact (below_size (Far.Bb HB.out))); (case aL => have := LMc4.out; omega); intro v259 w5 ho hb hg hat; rw [← Ny258.out] at ho; have n0_ := Aside0.mk (hb); have n1_ := Aside0.mk (ho); clear HB HO_3; have HB := n0_; have HO260 := n1_; clear n0_ n1_; clear ho hb hg hat))
            go_roundg k1
            case measure => have := HK1.out; omega
            case rel => exact ⟨(y258), (wrap64 (x4_1 + 1)), (by first | rfl | (simp; done) | (simp [*]; done)), H', ⟨by have := HK1.out; omega⟩, ⟨by (with_reducible repeat (first | apply Kd.R_alloc | apply Kd.R_drewN | apply Kd.R_drew)); exact HO260.out⟩, ⟨by repeat (first | (with_reducible first | exact HB.out | apply below_alloc | apply pw_below_drewN | apply below_drew1) | exact HB.out)⟩⟩
          · rw [if_neg c4] at H
            exact absurd H (by simp)
        · rw [if_neg c3] at H
          exact absurd H (by simp)
      · rw [if_neg c2] at H
        have c2b0 : decide (x4_1 < (l0.length : Int)) = false := decide_eq_false c2
        clear c2
        obtain rfl := Option.some.inj H
        go_wp2
        go_ret
        exact ⟨_, by first | rfl | (simp [errW_none, errW_some] <;> rfl) | (simp [*, errW_none, errW_some] <;> rfl) | (refine congrArg (fun z_ : Int => Ending.returned (.bool (z_ == _))) ?_; simp only [IntKind.wrap, IntKind.bits, IntKind.signed]; simp <;> omega), by (with_reducible repeat (first | apply Kd.R_alloc | apply Kd.R_drewN | apply Kd.R_drew)); exact HO_3.out, by repeat (first | (with_reducible first | exact HB.out | apply below_alloc | apply pw_below_drewN | apply below_drew1) | exact HB.out)⟩

end Go.Proofs.Ytcjicfpdmegckaa.Q
