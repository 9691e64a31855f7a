/- Written by a program of this repo (wip/tools/gprint.py): what functions of the Go program compute, the proofs that they do, and the rows of statements. Conditions: those in each theorem. -/
import Derived.Test.YtcjicfpdmegckaaSx0
import Derived.Test.YtcjicfpdmegckaaWFar
namespace Go.Proofs.Ytcjicfpdmegckaa.S
open Go.RowKit Go.Proofs.YtcjicfpdmegckaaW.PrintWords Go.Proofs.YtcjicfpdmegckaaW.PrintLast Go.Proofs.YtcjicfpdmegckaaW.PrintMore
attribute [local go_sem] max2_int min2_int max_two min_two max_three min_three max_four min_four   -- for this text's walks alone
set_option linter.unusedVariables false
set_option linter.unusedSimpArgs false

/-! ### word_Ceil: function 37 -/
def word_Ceil.f (a0 : Int) (a1 : Int) : Option (Int) := if a0 < 0 then (some 0) else (if a0 > 9007199254740992 then (some 0) else (if a1 < 1 then (some 0) else (if a1 > 9007199254740992 then (some 0) else (if a1 = 0 then (none) else (some (wrap64 (Int.tdiv (wrap64 ((wrap64 (a0 + a1)) - 1)) a1)))))))
set_option maxHeartbeats 8000000 in
set_option maxRecDepth 100000 in
theorem word_Ceil.calls (a0 : Int) (a1 : Int) (r : Int) (w : World) (h : word_Ceil.f a0 a1 = some r) :
    Calls Try.prog 37 #[.int .i64 a0, .int .i64 a1] w fun e w' => e = .returned (.int .i64 r) ∧ Drawn0 w w' := by
  have H : (if a0 < 0 then (some 0) else (if a0 > 9007199254740992 then (some 0) else (if a1 < 1 then (some 0) else (if a1 > 9007199254740992 then (some 0) else (if a1 = 0 then (none) else (some (wrap64 (Int.tdiv (wrap64 ((wrap64 (a0 + a1)) - 1)) a1)))))))) = some r := h
  clear h
  by_cases c3 : a0 < 0
  · rw [if_pos c3] at H
    have c3b0 : decide (a0 < 0) = true := decide_eq_true c3
    clear c3
    obtain rfl := Option.some.inj H
    go_enter Try.func37, Try.ntmps37
    go_wp2
    go_ret
    exact ⟨by first | rfl | (simp; done) | (simp [*]; done), by repeat (first | exact Drawn0.refl _ | apply Drawn0.step)⟩
  · rw [if_neg c3] at H
    have c3b0 : decide (a0 < 0) = false := decide_eq_false c3
    clear c3
    by_cases c4 : a0 > 9007199254740992
    · rw [if_pos c4] at H
      have c4b0 : decide (9007199254740992 < a0) = true := decide_eq_true c4
      clear c4
      obtain rfl := Option.some.inj H
      go_enter Try.func37, Try.ntmps37
      go_wp2
      go_ret
      exact ⟨by first | rfl | (simp; done) | (simp [*]; done), by repeat (first | exact Drawn0.refl _ | apply Drawn0.step)⟩
    · rw [if_neg c4] at H
      have c4b0 : decide (9007199254740992 < a0) = false := decide_eq_false c4
      clear c4
      by_cases c5 : a1 < 1
      · rw [if_pos c5] at H
        have c5b0 : decide (a1 < 1) = true := decide_eq_true c5
        clear c5
        obtain rfl := Option.some.inj H
        go_enter Try.func37, Try.ntmps37
        go_wp2
        go_ret
        exact ⟨by first | rfl | (simp; done) | (simp [*]; done), by repeat (first | exact Drawn0.refl _ | apply Drawn0.step)⟩
      · rw [if_neg c5] at H
        have c5b0 : decide (a1 < 1) = false := decide_eq_false c5
        clear c5
        by_cases c6 : a1 > 9007199254740992
        · rw [if_pos c6] at H
          have c6b0 : decide (9007199254740992 < a1) = true := decide_eq_true c6
          clear c6
          obtain rfl := Option.some.inj H
          go_enter Try.func37, Try.ntmps37
          go_wp2
          go_ret
          exact ⟨by first | rfl | (simp; done) | (simp [*]; done), by repeat (first | exact Drawn0.refl _ | apply Drawn0.step)⟩
        · rw [if_neg c6] at H
          have c6b0 : decide (9007199254740992 < a1) = false := decide_eq_false c6
          clear c6
          by_cases c7 : a1 = 0
          · rw [if_pos c7] at H
            exact absurd H (by simp)
          · rw [if_neg c7] at H
            have c7b0 : (a1 == 0) = false := beq_eq_false_iff_ne.mpr c7
            have c7b1 : (a1 != 0) = true := bne_iff_ne.mpr c7
            obtain rfl := Option.some.inj H
            go_enter Try.func37, Try.ntmps37
            go_wp2
            go_ret
            exact ⟨by first | rfl | (simp; done) | (simp [*]; done), by repeat (first | exact Drawn0.refl _ | apply Drawn0.step)⟩

/-! ### word_Signed: function 39 -/
def word_Signed.f (a0 : Int) (a1 : Int) : Option (Int) := some ((wrap64 (IntKind.u64.wrap (a0 * 2 ^ (64 - (mx 1 (mn a1 63))).toNat))) / 2 ^ (64 - (mx 1 (mn a1 63))).toNat)
set_option maxHeartbeats 8000000 in
set_option maxRecDepth 100000 in
theorem word_Signed.calls (a0 : Int) (a1 : Int) (r : Int) (w : World) (h : word_Signed.f a0 a1 = some r) :
    Calls Try.prog 39 #[.int .u64 a0, .int .i64 a1] w fun e w' => e = .returned (.int .i64 r) ∧ Below w.heap.size w w' := by
  have HB := Aside0.mk (Below.refl w.heap.size w)
  have H : (some ((wrap64 (IntKind.u64.wrap (a0 * 2 ^ (64 - (mx 1 (mn a1 63))).toNat))) / 2 ^ (64 - (mx 1 (mn a1 63))).toNat)) = some r := h
  clear h
  obtain ⟨ji3, hji3⟩ : ∃ j_ : Int, (mn a1 63) = j_ := ⟨_, rfl⟩
  replace H : (some ((wrap64 (IntKind.u64.wrap (a0 * 2 ^ (64 - (mx 1 (ji3))).toNat))) / 2 ^ (64 - (mx 1 (ji3))).toNat)) = some r := by first | (rw [hji3] at H; exact H) | (simp only [hji3] at H ⊢; exact H)
  (try (have hji3h : ji3 ≤ 63 := by (rw [← hji3]; unfold mn; (repeat' split) <;> omega)))
  (try (have hji3g : ji3 ≤ 64 := by omega))
  have hji3_ : (if 63 < a1 then 63 else a1) = ji3 := hji3
  obtain ⟨ji4, hji4⟩ : ∃ j_ : Int, (mx 1 (ji3)) = j_ := ⟨_, rfl⟩
  replace H : (some ((wrap64 (IntKind.u64.wrap (a0 * 2 ^ (64 - (ji4)).toNat))) / 2 ^ (64 - (ji4)).toNat)) = some r := by first | (rw [hji4] at H; exact H) | (simp only [hji4] at H ⊢; exact H)
  have hji4_ : (if 1 < (ji3) then (ji3) else 1) = ji4 := hji4
  obtain rfl := Option.some.inj H
  go_enter Try.func39, Try.ntmps39
  go_wp2
  go_ret
  exact ⟨by first | rfl | (simp [errW_none, errW_some] <;> rfl) | (simp only [← hji3, ← hji4]; first | rfl | (simp [errW_none, errW_some] <;> rfl)) | (simp [*, errW_none, errW_some] <;> rfl), by repeat (first | (with_reducible first | exact HB.out | apply below_alloc | apply pw_below_drewN | apply below_drew1) | exact HB.out)⟩

/-! ### word_Put: function 133 -/
def word_Put.l0 : Nat → Int → List Int → Int → Int → Option (List Int)
  | 0, _, _, _, _ => none
  | k + 1, x0, x5, x12, x13 => if x13 < x12 then (if 0 ≤ (wrap64 (8 * x13)) then (if 0 ≤ x13 then (if x13 < (x5.length : Int) then (word_Put.l0 k x0 (x5.set (x13 : Int).toNat ((shr .u64 x0 (wrap64 (8 * x13))) % 256)) x12 (wrap64 (x13 + 1))) else (none)) else (none)) else (none)) else (some x5)
def word_Put.f (k : Nat) (a0 : Int) (a1 : Int) : Option (List Int) := if 0 ≤ (mx 0 (mn a1 8)) then (if (mx 0 (mn a1 8) : Int).toNat ≤ 281474976710656 then ((some (List.replicate (mx 0 (mn a1 8) : Int).toNat 0 : List Int)).bind fun y101 => (word_Put.l0 k a0 y101 (y101.length : Int) 0)) else (none)) else (none)
set_option maxHeartbeats 8000000 in
set_option maxRecDepth 100000 in
theorem word_Put.calls (k : Nat) (a0 : Int) (a1 : Int) (r : List Int) (w : World) (h : word_Put.f k a0 a1 = some r) :
    Calls Try.prog 133 #[.int .u64 a0, .int .i64 a1] w fun e w' => ∃ v0_ : Value, e = .returned (v0_) ∧ Kd.R (Kd.int .u8) 5 w' w.heap.size (fun _ => True) v0_ r ∧ Below w.heap.size w w' := by
  have HB := Aside0.mk (Below.refl w.heap.size w)
  have H : (if 0 ≤ (mx 0 (mn a1 8)) then (if (mx 0 (mn a1 8) : Int).toNat ≤ 281474976710656 then ((some (List.replicate (mx 0 (mn a1 8) : Int).toNat 0 : List Int)).bind fun y101 => (word_Put.l0 k a0 y101 (y101.length : Int) 0)) else (none)) else (none)) = some r := h
  clear h
  obtain ⟨ji3, hji3⟩ : ∃ j_ : Int, (mn a1 8) = j_ := ⟨_, rfl⟩
  replace H : (if 0 ≤ (mx 0 (ji3)) then (if (mx 0 (ji3) : Int).toNat ≤ 281474976710656 then ((some (List.replicate (mx 0 (ji3) : Int).toNat 0 : List Int)).bind fun y101 => (word_Put.l0 k a0 y101 (y101.length : Int) 0)) else (none)) else (none)) = some r := by first | (rw [hji3] at H; exact H) | (simp only [hji3] at H ⊢; exact H)
  (try (have hji3h : ji3 ≤ 8 := by (rw [← hji3]; unfold mn; (repeat' split) <;> omega)))
  (try (have hji3g : ji3 ≤ 64 := by omega))
  have hji3_ : (if 8 < a1 then 8 else a1) = ji3 := hji3
  obtain ⟨ji4, hji4⟩ : ∃ j_ : Int, (mx 0 (ji3)) = j_ := ⟨_, rfl⟩
  replace H : (if 0 ≤ (ji4) then (if (ji4 : Int).toNat ≤ 281474976710656 then ((some (List.replicate (ji4 : Int).toNat 0 : List Int)).bind fun y101 => (word_Put.l0 k a0 y101 (y101.length : Int) 0)) else (none)) else (none)) = some r := by first | (rw [hji4] at H; exact H) | (simp only [hji4] at H ⊢; exact H)
  have hji4_ : (if 0 < (ji3) then (ji3) else 0) = ji4 := hji4
  by_cases c5 : 0 ≤ (ji4)
  · rw [if_pos c5] at H
    have c5b0 := eq_true c5
    have c5b1 : decide (0 ≤ (ji4)) = true := decide_eq_true c5
    clear c5
    by_cases c6 : (ji4 : Int).toNat ≤ 281474976710656
    · rw [if_pos c6] at H
      have c6b0 := eq_true c6
      have c6b1 : decide ((ji4 : Int).toNat ≤ 281474976710656) = true := decide_eq_true c6
      clear c6
      obtain ⟨y101, hy101⟩ : ∃ y_ : List Int, y_ = (List.replicate (ji4 : Int).toNat 0) := ⟨_, rfl⟩
      replace H : (word_Put.l0 k a0 y101 (y101.length : Int) 0) = some r := by first | (rw [hy101]; with_reducible exact H) | (have H2_ := (Option.bind_some _ _).symm.trans H; rw [hy101]; with_reducible exact H2_) | (have H2_ := (Option.bind_some _ _).symm.trans H; with_reducible exact H2_) | with_reducible exact H | (rw [hy101]; exact H) | exact H
      have Ny101 := Aside0.mk hy101
      clear hy101
      have H' := Aside0.mk H
      clear H
      go_enter Try.func133, Try.ntmps133
      go_wp2_with (first | ((with_reducible refine gate_dst (N := 10) rfl ?_); refine Kd.R_make (Kd.int .u8) _ 5 rfl (N := 10) rfl 29 _ _ rfl ji4 rfl rfl Try.underlying29 (.int .u8 0) 1 info5 rfl (by decide) (by omega) 0 (ok := fun _ => True) (okp := fun _ => True) rfl (fun _ hk => hk) trivial (of_decide_eq_true (by first | (with_reducible assumption) | assumption)) (Nat.le_trans (Nat.mul_le_mul_right _ (of_decide_eq_true (by first | (with_reducible assumption) | assumption) : ji4.toNat ≤ 281474976710656)) (by omega)) (Below.refl _ _) (Nat.le_refl _) ?_; intro v102 w7 ho8 hb hg_ hnew_; clear hg_ hnew_; (first | rw [← Ny101.out] at ho8 | (simp only [Int.reduceToNat] at ho8; rw [← Ny101.out] at ho8)); have n0_ := Aside0.mk (Kd.R_lower ho8 (below_size (Far.Bb HB.out))); have n1_ := Aside0.mk (below_step (Far.Bb HB.out) hb); clear HB; have HO103 := n0_; have HB := n1_; clear n0_ n1_; clear hb ho8; obtain ⟨Ao9, co9, eo9⟩ := Kd.R_slice HO103.out; subst eo9))
      go_loopg [13] k (fun kq v13 w' => ∃ (x5_1 : List Int) (x13_1 : Int), v13 = .int .i64 x13_1 ∧ Aside0 (word_Put.l0 kq a0 x5_1 (y101.length : Int) x13_1 = some r) ∧ Aside0 (kq ≤ k) ∧ Aside0 (Kd.R (Kd.int .u8) 5 w' w.heap.size (fun _ => True) (.slice Ao9 y101.length co9) x5_1) ∧ Aside0 (Below w.heap.size w w'))
      case atStart => exact ⟨(y101), (0), (by first | rfl | (simp; done) | (simp [*]; done)), H', ⟨Nat.le_refl _⟩, ⟨by (with_reducible repeat (first | apply Kd.R_alloc | apply Kd.R_drewN | apply Kd.R_drew)); exact HO103.out⟩, ⟨by repeat (first | (with_reducible first | exact HB.out | apply below_alloc | apply pw_below_drewN | apply below_drew1) | exact HB.out)⟩⟩
      case round =>
        clear H'; (try clear c1); (try clear p2); (try clear c5); (try clear c5b0); (try clear c5b1); (try clear c6); (try clear c6b0); (try clear c6b1)
        obtain ⟨x5_1, x13_1, rfl, HA, HK1, HO_5, HB⟩ := hrel
        have hl5_1 := (Kd.R_reads' HO_5.out).1
        rw [hl5_1] at HO_5
        (try simp only [hl5_1])
        cases gk with
        | zero => exact absurd HA.out (by simp [word_Put.l0])
        | succ k1 =>
          have H := HA.out
          clear HA
          simp only [word_Put.l0] at H
          by_cases c10 : x13_1 < (y101.length : Int)
          · rw [if_pos c10] at H
            have c10b0 : decide (x13_1 < (y101.length : Int)) = true := decide_eq_true c10
            (try simp only [hl5_1] at c10b0)
            clear c10
            obtain ⟨ji11, hji11⟩ : ∃ j_ : Int, (wrap64 (8 * x13_1)) = j_ := ⟨_, rfl⟩
            replace H : (if 0 ≤ (ji11) then (if 0 ≤ x13_1 then (if x13_1 < (x5_1.length : Int) then (word_Put.l0 k1 a0 (x5_1.set (x13_1 : Int).toNat ((shr .u64 a0 (ji11)) % 256)) (y101.length : Int) (wrap64 (x13_1 + 1))) else (none)) else (none)) else (none)) = some r := by first | (rw [hji11] at H; exact H) | (simp only [hji11] at H ⊢; exact H)
            have hji11w : (IntKind.i64.wrap (8 * x13_1)) = ji11 := (i64_w _).trans hji11
            by_cases c12 : 0 ≤ (ji11)
            · rw [if_pos c12] at H
              have c12b0 := eq_true c12
              have c12b1 : decide (0 ≤ (ji11)) = true := decide_eq_true c12
              clear c12
              obtain ⟨ji13, hji13⟩ : ∃ j_ : Int, (shr .u64 a0 (ji11)) = j_ := ⟨_, rfl⟩
              replace H : (if 0 ≤ x13_1 then (if x13_1 < (x5_1.length : Int) then (word_Put.l0 k1 a0 (x5_1.set (x13_1 : Int).toNat ((ji13) % 256)) (y101.length : Int) (wrap64 (x13_1 + 1))) else (none)) else (none)) = some r := by first | (rw [hji13] at H; exact H) | (simp only [hji13] at H ⊢; exact H)
              have hji13_ : (a0 / 2 ^ min (ji11).toNat 64) = ji13 := hji13
              (try have hji13p : (0 ≤ ((ji11))) = True := eq_true (by omega))
              have hji13z : (ji11) ≤ 64 → (a0 / 2 ^ (ji11).toNat) = ji13 := shr_small hji13
              by_cases c14 : 0 ≤ x13_1
              · rw [if_pos c14] at H
                have c14b0 : decide (0 ≤ x13_1) = true := decide_eq_true c14
                clear c14
                by_cases c15 : x13_1 < (x5_1.length : Int)
                · rw [if_pos c15] at H
                  have c15b0 : decide (x13_1 < (x5_1.length : Int)) = true := decide_eq_true c15
                  (try simp only [hl5_1] at c15b0)
                  clear c15
                  obtain ⟨y104, hy104⟩ : ∃ y_ : List Int, y_ = (x5_1.set (x13_1 : Int).toNat ((ji13) % 256)) := ⟨_, rfl⟩
                  replace H : (word_Put.l0 k1 a0 y104 (y101.length : Int) (wrap64 (x13_1 + 1))) = some r := by first | (rw [hy104]; with_reducible exact H) | (have H2_ := (Option.bind_some _ _).symm.trans H; rw [hy104]; with_reducible exact H2_) | (have H2_ := (Option.bind_some _ _).symm.trans H; with_reducible exact H2_) | with_reducible exact H | (rw [hy104]; exact H) | exact H
                  have Ny104 := Aside0.mk hy104
                  clear hy104
                  have H' := Aside0.mk H
                  clear H
                  have p16 : 0 ≤ (x13_1 : Int) := of_decide_eq_true (by first | (with_reducible assumption) | assumption)
                  have q16 : (x13_1 : Int) < ((x5_1.length : Int) : Int) := of_decide_eq_true (by first | (with_reducible assumption) | assumption)
                  obtain ⟨go16, co16, eo16, gb16, gl16, cl16, HG16⟩ := Kd.R_form HO_5.out (by omega)
                  (first | cases eo16 | (injection eo16 with ea_ en_ ec_; (first | subst ea_ | (injection ea_ with ea_; subst ea_)); subst ec_; clear en_))
                  have GB16 := Aside0.mk gb16
                  have GG16 := Aside0.mk HG16
                  clear gb16 gl16 HG16
                  obtain ⟨hx16_0, hf16_0⟩ := Kd.R_celln 0 HO_5.out (x13_1 : Int) p16 q16
                  replace p16 := eq_true p16
                  replace q16 := eq_true q16
                  have HP17 := Kd.R_putg HO_5.out (x13_1 : Int) ((ji13) % 256)
                  go_wp2_with (first | ((with_reducible refine gate_store (t := 5) (p := 23) rfl ?_); refine store_event (t := 5) (p := 23) (v := ?vo_w18) (w1 := (wr.setCell ⟨go16, (x13_1 : Int).toNat, none⟩ (.int .u8 ((ji13) % 256)))) ?hg ?ho ?hn ?hr ?_; (case ho => rfl); (case hg => rfl); (case hn => rfl); (case hr => first | (go_simp; done) | (go_simp; rfl)); intro w18 hw; have hg : wr.grownBy w18 (some go16) := (by rw [hw]; exact HP17.2); have hp_ : Kd.R (Kd.int .u8) 5 w18 w.heap.size (fun _ => True) (.slice (some ⟨go16, 0, none⟩) x5_1.length co9) y104 := (by rw [hw, Ny104.out]; exact HP17.1); clear HP17; have n0_ := Aside0.mk (hp_); have n1_ := Aside0.mk ((by rw [hw]; exact below_set (HB.out) GB16.out : Below w.heap.size w w18)); clear HO_5 HB; have HO_5 := n0_; have HB := n1_; clear n0_ n1_; clear hg hw hp_))
                  (try simp only [← hl5_1])
                  go_roundg k1
                  case measure => have := HK1.out; omega
                  case rel => exact ⟨(y104), (wrap64 (x13_1 + 1)), (by first | rfl | (simp; done) | (simp [*]; done)), H', ⟨by have := HK1.out; omega⟩, ⟨by (try simp only [hl5_1]); (with_reducible repeat (first | apply Kd.R_alloc | apply Kd.R_drewN | apply Kd.R_drew)); exact HO_5.out⟩, ⟨by repeat (first | (with_reducible first | exact HB.out | apply below_alloc | apply pw_below_drewN | apply below_drew1) | exact HB.out)⟩⟩
                · rw [if_neg c15] at H
                  exact absurd H (by simp)
              · rw [if_neg c14] at H
                exact absurd H (by simp)
            · rw [if_neg c12] at H
              exact absurd H (by simp)
          · rw [if_neg c10] at H
            have c10b0 : decide (x13_1 < (y101.length : Int)) = false := decide_eq_false c10
            (try simp only [hl5_1] at c10b0)
            clear c10
            obtain rfl := Option.some.inj H
            go_wp2
            go_ret
            exact ⟨_, by first | rfl | (simp [errW_none, errW_some] <;> rfl) | (simp only [← hji3, ← hji4]; first | rfl | (simp [errW_none, errW_some] <;> rfl)) | (simp [*, errW_none, errW_some] <;> rfl), by (with_reducible repeat (first | apply Kd.R_alloc | apply Kd.R_drewN | apply Kd.R_drew)); exact HO_5.out, by repeat (first | (with_reducible first | exact HB.out | apply below_alloc | apply pw_below_drewN | apply below_drew1) | exact HB.out)⟩
    · rw [if_neg c6] at H
      exact absurd H (by simp)
  · rw [if_neg c5] at H
    exact absurd H (by simp)

/-! ### word_Add: function 134 -/
def word_Add.f (a0 : Int) (a1 : Int) (a2 : Int) : Option (Int × Bool) := if (mn a0 a1) < 0 then (some (0, false)) else (if a0 > a2 then (some (0, false)) else (if a1 > (wrap64 (a2 - a0)) then (some (0, false)) else (some (wrap64 (a0 + a1), true))))
set_option maxHeartbeats 8000000 in
set_option maxRecDepth 100000 in
theorem word_Add.calls (a0 : Int) (a1 : Int) (a2 : Int) (r1 : Int) (r2 : Bool) (w : World) (h : word_Add.f a0 a1 a2 = some (r1, r2)) :
    Calls Try.prog 134 #[.int .i64 a0, .int .i64 a1, .int .i64 a2] w fun e w' => e = .returned (.tuple #[.int .i64 r1, .bool r2]) ∧ Below w.heap.size w w' := by
  have HB := Aside0.mk (Below.refl w.heap.size w)
  have H : (if (mn a0 a1) < 0 then (some (0, false)) else (if a0 > a2 then (some (0, false)) else (if a1 > (wrap64 (a2 - a0)) then (some (0, false)) else (some (wrap64 (a0 + a1), true))))) = some (r1, r2) := h
  clear h
  obtain ⟨ji4, hji4⟩ : ∃ j_ : Int, (mn a0 a1) = j_ := ⟨_, rfl⟩
  replace H : (if (ji4) < 0 then (some (0, false)) else (if a0 > a2 then (some (0, false)) else (if a1 > (wrap64 (a2 - a0)) then (some (0, false)) else (some (wrap64 (a0 + a1), true))))) = some (r1, r2) := by first | (rw [hji4] at H; exact H) | (simp only [hji4] at H ⊢; exact H)
  have hji4_ : (if a1 < a0 then a1 else a0) = ji4 := hji4
  by_cases c5 : (ji4) < 0
  · rw [if_pos c5] at H
    have c5b0 : decide ((ji4) < 0) = true := decide_eq_true c5
    clear c5
    simp only [Option.some.injEq, Prod.mk.injEq] at H
    obtain ⟨rfl, rfl⟩ := H
    go_enter Try.func134, Try.ntmps134
    go_wp2
    go_ret2
    exact ⟨by first | rfl | (simp [errW_none, errW_some] <;> rfl) | (simp only [← hji4]; first | rfl | (simp [errW_none, errW_some] <;> rfl)) | (simp [*, errW_none, errW_some] <;> rfl), by repeat (first | (with_reducible first | exact HB.out | apply below_alloc | apply pw_below_drewN | apply below_drew1) | exact HB.out)⟩
  · rw [if_neg c5] at H
    have c5b0 : decide ((ji4) < 0) = false := decide_eq_false c5
    clear c5
    by_cases c6 : a0 > a2
    · rw [if_pos c6] at H
      have c6b0 : decide (a2 < a0) = true := decide_eq_true c6
      clear c6
      simp only [Option.some.injEq, Prod.mk.injEq] at H
      obtain ⟨rfl, rfl⟩ := H
      go_enter Try.func134, Try.ntmps134
      go_wp2
      go_ret2
      exact ⟨by first | rfl | (simp [errW_none, errW_some] <;> rfl) | (simp only [← hji4]; first | rfl | (simp [errW_none, errW_some] <;> rfl)) | (simp [*, errW_none, errW_some] <;> rfl), by repeat (first | (with_reducible first | exact HB.out | apply below_alloc | apply pw_below_drewN | apply below_drew1) | exact HB.out)⟩
    · rw [if_neg c6] at H
      have c6b0 : decide (a2 < a0) = false := decide_eq_false c6
      clear c6
      by_cases c7 : a1 > (wrap64 (a2 - a0))
      · rw [if_pos c7] at H
        have c7b0 : decide ((wrap64 (a2 - a0)) < a1) = true := decide_eq_true c7
        clear c7
        simp only [Option.some.injEq, Prod.mk.injEq] at H
        obtain ⟨rfl, rfl⟩ := H
        go_enter Try.func134, Try.ntmps134
        go_wp2
        go_ret2
        exact ⟨by first | rfl | (simp [errW_none, errW_some] <;> rfl) | (simp only [← hji4]; first | rfl | (simp [errW_none, errW_some] <;> rfl)) | (simp [*, errW_none, errW_some] <;> rfl), by repeat (first | (with_reducible first | exact HB.out | apply below_alloc | apply pw_below_drewN | apply below_drew1) | exact HB.out)⟩
      · rw [if_neg c7] at H
        have c7b0 : decide ((wrap64 (a2 - a0)) < a1) = false := decide_eq_false c7
        clear c7
        simp only [Option.some.injEq, Prod.mk.injEq] at H
        obtain ⟨rfl, rfl⟩ := H
        go_enter Try.func134, Try.ntmps134
        go_wp2
        go_ret2
        exact ⟨by first | rfl | (simp [errW_none, errW_some] <;> rfl) | (simp only [← hji4]; first | rfl | (simp [errW_none, errW_some] <;> rfl)) | (simp [*, errW_none, errW_some] <;> rfl), by repeat (first | (with_reducible first | exact HB.out | apply below_alloc | apply pw_below_drewN | apply below_drew1) | exact HB.out)⟩

/-! ### scullerlaw01_known: function 35 -/
def scullerlaw01_known.f (k : Nat)  : Option (Bool) := (word_Put.f k 258 3).bind fun t105 => ((word_Add.f 5 6 10).bind fun bt108 => ((word_Add.f 4 6 10).bind fun bt110 => (if (t105.length : Int) = 3 then (if 0 < (t105.length : Int) then (if (rd t105 0) = 2 then (if 1 < (t105.length : Int) then (if (rd t105 1) = 1 then (if bt108.2 = true then (some false) else (if bt110.1 = 10 then (if bt110.2 = true then ((word_Signed.f 7 3).bind fun t114 => (if t114 = (-1) then ((word_Ceil.f 9 8).bind fun t115 => (some (t115 == 2))) else (some false))) else (some false)) else (some false))) else (some false)) else (none)) else (some false)) else (none)) else (some false))))
set_option maxHeartbeats 8000000 in
set_option maxRecDepth 100000 in
theorem scullerlaw01_known.calls (k : Nat)  (r : Bool) (w : World) (h : scullerlaw01_known.f k  = some r) :
    Calls Try.prog 35 #[] w fun e w' => e = .returned (.bool r) ∧ Below w.heap.size w w' := by
  have HB := Aside0.mk (Below.refl w.heap.size w)
  have H : ((word_Put.f k 258 3).bind fun t105 => ((word_Add.f 5 6 10).bind fun bt108 => ((word_Add.f 4 6 10).bind fun bt110 => (if (t105.length : Int) = 3 then (if 0 < (t105.length : Int) then (if (rd t105 0) = 2 then (if 1 < (t105.length : Int) then (if (rd t105 1) = 1 then (if bt108.2 = true then (some false) else (if bt110.1 = 10 then (if bt110.2 = true then ((word_Signed.f 7 3).bind fun t114 => (if t114 = (-1) then ((word_Ceil.f 9 8).bind fun t115 => (some (t115 == 2))) else (some false))) else (some false)) else (some false))) else (some false)) else (none)) else (some false)) else (none)) else (some false))))) = some r := h
  clear h
  replace H := Option.bind_eq_some_iff.mp H
  obtain ⟨t105, A10, H⟩ := H
  replace H : ((word_Add.f 5 6 10).bind fun bt108 => ((word_Add.f 4 6 10).bind fun bt110 => (if (t105.length : Int) = 3 then (if 0 < (t105.length : Int) then (if (rd t105 0) = 2 then (if 1 < (t105.length : Int) then (if (rd t105 1) = 1 then (if bt108.2 = true then (some false) else (if bt110.1 = 10 then (if bt110.2 = true then ((word_Signed.f 7 3).bind fun t114 => (if t114 = (-1) then ((word_Ceil.f 9 8).bind fun t115 => (some (t115 == 2))) else (some false))) else (some false)) else (some false))) else (some false)) else (none)) else (some false)) else (none)) else (some false)))) = some r := H
  have A1 := Aside0.mk A10
  clear A10
  replace H := Option.bind_eq_some_iff.mp H
  obtain ⟨⟨t108, t109⟩, A20, H⟩ := H
  replace H : ((word_Add.f 4 6 10).bind fun bt110 => (if (t105.length : Int) = 3 then (if 0 < (t105.length : Int) then (if (rd t105 0) = 2 then (if 1 < (t105.length : Int) then (if (rd t105 1) = 1 then (if t109 = true then (some false) else (if bt110.1 = 10 then (if bt110.2 = true then ((word_Signed.f 7 3).bind fun t114 => (if t114 = (-1) then ((word_Ceil.f 9 8).bind fun t115 => (some (t115 == 2))) else (some false))) else (some false)) else (some false))) else (some false)) else (none)) else (some false)) else (none)) else (some false))) = some r := H
  have A2 := Aside0.mk A20
  clear A20
  replace H := Option.bind_eq_some_iff.mp H
  obtain ⟨⟨t110, t111⟩, A30, H⟩ := H
  replace H : (if (t105.length : Int) = 3 then (if 0 < (t105.length : Int) then (if (rd t105 0) = 2 then (if 1 < (t105.length : Int) then (if (rd t105 1) = 1 then (if t109 = true then (some false) else (if t110 = 10 then (if t111 = true then ((word_Signed.f 7 3).bind fun t114 => (if t114 = (-1) then ((word_Ceil.f 9 8).bind fun t115 => (some (t115 == 2))) else (some false))) else (some false)) else (some false))) else (some false)) else (none)) else (some false)) else (none)) else (some false)) = some r := H
  have A3 := Aside0.mk A30
  clear A30
  by_cases c4 : (t105.length : Int) = 3
  · rw [if_pos c4] at H
    have c4b0 : ((t105.length : Int) == 3) = true := beq_iff_eq.mpr c4
    have c4b1 : ((t105.length : Int) != 3) = false := bne_eq_false_iff_eq.mpr c4
    clear c4
    by_cases c5 : 0 < (t105.length : Int)
    · rw [if_pos c5] at H
      have c5b0 : decide (0 < (t105.length : Int)) = true := decide_eq_true c5
      have c5b1 : decide (0 < t105.length) = true := decide_eq_true (by omega)
      clear c5
      by_cases c6 : (rd t105 0) = 2
      · rw [if_pos c6] at H
        have c6b0 : ((rd t105 0) == 2) = true := beq_iff_eq.mpr c6
        have c6b1 : ((rd t105 0) != 2) = false := bne_eq_false_iff_eq.mpr c6
        clear c6
        by_cases c7 : 1 < (t105.length : Int)
        · rw [if_pos c7] at H
          have c7b0 : decide (1 < (t105.length : Int)) = true := decide_eq_true c7
          have c7b1 : decide (1 < t105.length) = true := decide_eq_true (by omega)
          clear c7
          by_cases c8 : (rd t105 1) = 1
          · rw [if_pos c8] at H
            have c8b0 : ((rd t105 1) == 1) = true := beq_iff_eq.mpr c8
            have c8b1 : ((rd t105 1) != 1) = false := bne_eq_false_iff_eq.mpr c8
            clear c8
            by_cases c9 : t109 = true
            · subst c9
              have H1 : (some false) = some r := by rw [if_pos rfl] at H; exact H
              clear H
              have H := H1
              clear H1
              obtain rfl := Option.some.inj H
              go_enter Try.func35, Try.ntmps35
              go_wp2_with (first | ((first | ((with_reducible refine gate_callee (f := 133) rfl ?_); refine goesL_ (some 6) rfl rfl Try.func133 (by kernel_rfl) rfl #[.int .u64 258, .int .i64 3] rfl (by (try simp only [List.map_toArray, List.map_cons, List.map_nil]); first | done | rfl | (simp only [List.length_drop, List.length_take]; rfl)) ?_; (with_reducible refine (word_Put.calls k 258 3 t105 _ A1.out).mono ?_)) | (go_at_call 133; (with_reducible refine (word_Put.calls k 258 3 t105 _ A1.out).mono ?_))); rintro e w10 ⟨v106, rfl, ho0, hb⟩; (try refine ⟨_, rfl, ?_⟩); have n0_ := Aside0.mk (Kd.R_lower ho0 (below_size (Far.Bb HB.out))); have n1_ := Aside0.mk (below_step (Far.Bb HB.out) hb); clear HB; have HO107 := n0_; have HB := n1_; clear n0_ n1_; (try clear hb); (try clear hb2); (try clear hk); (try clear hi); (try clear ho0)) | ((first | ((with_reducible refine gate_callee (f := 134) rfl ?_); refine goesL_ (some 8) rfl rfl Try.func134 (by kernel_rfl) rfl #[.int .i64 5, .int .i64 6, .int .i64 10] rfl (by (try simp only [List.map_toArray, List.map_cons, List.map_nil]); first | done | rfl | (simp only [List.length_drop, List.length_take]; rfl)) ?_; (with_reducible refine (word_Add.calls 5 6 10 t108 true _ A2.out).mono ?_)) | (go_at_call 134; (with_reducible refine (word_Add.calls 5 6 10 t108 true _ A2.out).mono ?_))); rintro e w11 ⟨rfl, hb⟩; (try refine ⟨_, rfl, ?_⟩); have n0_ := Aside0.mk (Kd.R_below (Far.Ra HO107.out) hb); have n1_ := Aside0.mk (below_step (Far.Bb HB.out) hb); clear HO107 HB; have HO107 := n0_; have HB := n1_; clear n0_ n1_; (try clear hb); (try clear hb2); (try clear hk); (try clear hi)) | ((first | ((with_reducible refine gate_callee (f := 134) rfl ?_); refine goesL_ (some 12) rfl rfl Try.func134 (by kernel_rfl) rfl #[.int .i64 4, .int .i64 6, .int .i64 10] rfl (by (try simp only [List.map_toArray, List.map_cons, List.map_nil]); first | done | rfl | (simp only [List.length_drop, List.length_take]; rfl)) ?_; (with_reducible refine (word_Add.calls 4 6 10 t110 t111 _ A3.out).mono ?_)) | (go_at_call 134; (with_reducible refine (word_Add.calls 4 6 10 t110 t111 _ A3.out).mono ?_))); rintro e w12 ⟨rfl, hb⟩; (try refine ⟨_, rfl, ?_⟩); have n0_ := Aside0.mk (Kd.R_below (Far.Ra HO107.out) hb); have n1_ := Aside0.mk (below_step (Far.Bb HB.out) hb); clear HO107 HB; have HO107 := n0_; have HB := n1_; clear n0_ n1_; (try clear hb); (try clear hb2); (try clear hk); (try clear hi); obtain ⟨Ao13, co13, eo13⟩ := Kd.R_slice HO107.out; subst eo13; have p112 : 0 ≤ (0 : Int) := (by omega); have q112 : 0 < (t105.length : Int) := of_decide_eq_true (by first | (with_reducible assumption) | assumption); obtain ⟨ad112, e112, hx112_0⟩ := Kd.at_int (Kd.R_reads' HO107.out).2.2 0 p112 q112; cases e112; have qi112 : (0 < t105.length) = True := eq_true (by omega); (try rw [show ((0 : Int)).toNat = 0 from rfl] at hx112_0); (try rw [Addr.add_zero'] at hx112_0); replace p112 := eq_true p112; replace q112 := eq_true q112; have p113 : 0 ≤ (1 : Int) := (by omega); have q113 : 1 < (t105.length : Int) := of_decide_eq_true (by first | (with_reducible assumption) | assumption); obtain ⟨ad113, e113, hx113_0⟩ := Kd.at_int (Kd.R_reads' HO107.out).2.2 1 p113 q113; obtain rfl : ad112 = ad113 := (by injection e113); (try simp only [show (1 : Int).toNat = 1 from rfl, Nat.reduceMul, Nat.reduceEqDiff, Go.Addr.add, ↓reduceIte] at hx113_0); have qi113 : (1 < t105.length) = True := eq_true (by omega); (try rw [show ((1 : Int)).toNat = 1 from rfl] at hx113_0); replace p113 := eq_true p113; replace q113 := eq_true q113))
              go_ret
              exact ⟨by first | rfl | (simp [errW_none, errW_some] <;> rfl) | (simp [*, errW_none, errW_some] <;> rfl) | (refine congrArg (fun z_ : Int => Ending.returned (.bool (z_ == _))) ?_; simp only [IntKind.wrap, IntKind.bits, IntKind.signed]; simp <;> omega), by repeat (first | (with_reducible first | exact HB.out | apply below_alloc | apply pw_below_drewN | apply below_drew1) | exact HB.out)⟩
            · replace c9 := Bool.eq_false_iff.mpr c9
              subst c9
              have H1 : (if t110 = 10 then (if t111 = true then ((word_Signed.f 7 3).bind fun t114 => (if t114 = (-1) then ((word_Ceil.f 9 8).bind fun t115 => (some (t115 == 2))) else (some false))) else (some false)) else (some false)) = some r := by rw [if_neg (show ¬ (false = true) by decide)] at H; exact H
              clear H
              have H := H1
              clear H1
              by_cases c14 : t110 = 10
              · rw [if_pos c14] at H
                have c14b0 : (t110 == 10) = true := beq_iff_eq.mpr c14
                have c14b1 : (t110 != 10) = false := bne_eq_false_iff_eq.mpr c14
                clear c14
                by_cases c15 : t111 = true
                · subst c15
                  have H1 : ((word_Signed.f 7 3).bind fun t114 => (if t114 = (-1) then ((word_Ceil.f 9 8).bind fun t115 => (some (t115 == 2))) else (some false))) = some r := by rw [if_pos rfl] at H; exact H
                  clear H
                  have H := H1
                  clear H1
                  replace H := Option.bind_eq_some_iff.mp H
                  obtain ⟨t114, A160, H⟩ := H
                  replace H : (if t114 = (-1) then ((word_Ceil.f 9 8).bind fun t115 => (some (t115 == 2))) else (some false)) = some r := H
                  have A16 := Aside0.mk A160
                  clear A160
                  by_cases c17 : t114 = (-1)
                  · rw [if_pos c17] at H
                    have c17b0 : (t114 == (-1)) = true := beq_iff_eq.mpr c17
                    have c17b1 : (t114 != (-1)) = false := bne_eq_false_iff_eq.mpr c17
                    clear c17
                    replace H := Option.bind_eq_some_iff.mp H
                    obtain ⟨t115, A180, H⟩ := H
                    replace H : (some (t115 == 2)) = some r := H
                    have A18 := Aside0.mk A180
                    clear A180
                    obtain rfl := Option.some.inj H
                    go_enter Try.func35, Try.ntmps35
                    go_wp2_with (first | ((first | ((with_reducible refine gate_callee (f := 133) rfl ?_); refine goesL_ (some 6) rfl rfl Try.func133 (by kernel_rfl) rfl #[.int .u64 258, .int .i64 3] rfl (by (try simp only [List.map_toArray, List.map_cons, List.map_nil]); first | done | rfl | (simp only [List.length_drop, List.length_take]; rfl)) ?_; (with_reducible refine (word_Put.calls k 258 3 t105 _ A1.out).mono ?_)) | (go_at_call 133; (with_reducible refine (word_Put.calls k 258 3 t105 _ A1.out).mono ?_))); rintro e w19 ⟨v106, rfl, ho0, hb⟩; (try refine ⟨_, rfl, ?_⟩); have n0_ := Aside0.mk (Kd.R_lower ho0 (below_size (Far.Bb HB.out))); have n1_ := Aside0.mk (below_step (Far.Bb HB.out) hb); clear HB; have HO107 := n0_; have HB := n1_; clear n0_ n1_; (try clear hb); (try clear hb2); (try clear hk); (try clear hi); (try clear ho0)) | ((first | ((with_reducible refine gate_callee (f := 134) rfl ?_); refine goesL_ (some 8) rfl rfl Try.func134 (by kernel_rfl) rfl #[.int .i64 5, .int .i64 6, .int .i64 10] rfl (by (try simp only [List.map_toArray, List.map_cons, List.map_nil]); first | done | rfl | (simp only [List.length_drop, List.length_take]; rfl)) ?_; (with_reducible refine (word_Add.calls 5 6 10 t108 false _ A2.out).mono ?_)) | (go_at_call 134; (with_reducible refine (word_Add.calls 5 6 10 t108 false _ A2.out).mono ?_))); rintro e w20 ⟨rfl, hb⟩; (try refine ⟨_, rfl, ?_⟩); have n0_ := Aside0.mk (Kd.R_below (Far.Ra HO107.out) hb); have n1_ := Aside0.mk (below_step (Far.Bb HB.out) hb); clear HO107 HB; have HO107 := n0_; have HB := n1_; clear n0_ n1_; (try clear hb); (try clear hb2); (try clear hk); (try clear hi)) | ((first | ((with_reducible refine gate_callee (f := 134) rfl ?_); refine goesL_ (some 12) rfl rfl Try.func134 (by kernel_rfl) rfl #[.int .i64 4, .int .i64 6, .int .i64 10] rfl (by (try simp only [List.map_toArray, List.map_cons, List.map_nil]); first | done | rfl | (simp only [List.length_drop, List.length_take]; rfl)) ?_; (with_reducible refine (word_Add.calls 4 6 10 t110 true _ A3.out).mono ?_)) | (go_at_call 134; (with_reducible refine (word_Add.calls 4 6 10 t110 true _ A3.out).mono ?_))); rintro e w21 ⟨rfl, hb⟩; (try refine ⟨_, rfl, ?_⟩); have n0_ := Aside0.mk (Kd.R_below (Far.Ra HO107.out) hb); have n1_ := Aside0.mk (below_step (Far.Bb HB.out) hb); clear HO107 HB; have HO107 := n0_; have HB := n1_; clear n0_ n1_; (try clear hb); (try clear hb2); (try clear hk); (try clear hi); obtain ⟨Ao22, co22, eo22⟩ := Kd.R_slice HO107.out; subst eo22; have p112 : 0 ≤ (0 : Int) := (by omega); have q112 : 0 < (t105.length : Int) := of_decide_eq_true (by first | (with_reducible assumption) | assumption); obtain ⟨ad112, e112, hx112_0⟩ := Kd.at_int (Kd.R_reads' HO107.out).2.2 0 p112 q112; cases e112; have qi112 : (0 < t105.length) = True := eq_true (by omega); (try rw [show ((0 : Int)).toNat = 0 from rfl] at hx112_0); (try rw [Addr.add_zero'] at hx112_0); replace p112 := eq_true p112; replace q112 := eq_true q112; have p113 : 0 ≤ (1 : Int) := (by omega); have q113 : 1 < (t105.length : Int) := of_decide_eq_true (by first | (with_reducible assumption) | assumption); obtain ⟨ad113, e113, hx113_0⟩ := Kd.at_int (Kd.R_reads' HO107.out).2.2 1 p113 q113; obtain rfl : ad112 = ad113 := (by injection e113); (try simp only [show (1 : Int).toNat = 1 from rfl, Nat.reduceMul, Nat.reduceEqDiff, Go.Addr.add, ↓reduceIte] at hx113_0); have qi113 : (1 < t105.length) = True := eq_true (by omega); (try rw [show ((1 : Int)).toNat = 1 from rfl] at hx113_0); replace p113 := eq_true p113; replace q113 := eq_true q113) | (go_at_call 39; (with_reducible refine (word_Signed.calls 7 3 t114 _ A16.out).mono ?_); rintro e w23 ⟨rfl, hb⟩; have n0_ := Aside0.mk (Kd.R_below (Far.Ra HO107.out) hb); have n1_ := Aside0.mk (below_step (Far.Bb HB.out) hb); clear HO107 HB; have HO107 := n0_; have HB := n1_; clear n0_ n1_; (try clear hb); (try clear hb2); (try clear hk); (try clear hi)) | (go_at_call 37; (with_reducible refine (word_Ceil.calls 9 8 t115 _ A18.out).mono ?_); rintro e w' ⟨rfl, ⟨nd, rfl⟩⟩))
                    go_ret
                    exact ⟨by first | rfl | (simp [errW_none, errW_some] <;> rfl) | (simp [*, errW_none, errW_some] <;> rfl) | (refine congrArg (fun z_ : Int => Ending.returned (.bool (z_ == _))) ?_; simp only [IntKind.wrap, IntKind.bits, IntKind.signed]; simp <;> omega), by repeat (first | (with_reducible first | exact HB.out | apply below_alloc | apply pw_below_drewN | apply below_drew1) | exact HB.out)⟩
                  · rw [if_neg c17] at H
                    have c17b0 : (t114 == (-1)) = false := beq_eq_false_iff_ne.mpr c17
                    have c17b1 : (t114 != (-1)) = true := bne_iff_ne.mpr c17
                    obtain rfl := Option.some.inj H
                    go_enter Try.func35, Try.ntmps35
                    go_wp2_with (first | ((first | ((with_reducible refine gate_callee (f := 133) rfl ?_); refine goesL_ (some 6) rfl rfl Try.func133 (by kernel_rfl) rfl #[.int .u64 258, .int .i64 3] rfl (by (try simp only [List.map_toArray, List.map_cons, List.map_nil]); first | done | rfl | (simp only [List.length_drop, List.length_take]; rfl)) ?_; (with_reducible refine (word_Put.calls k 258 3 t105 _ A1.out).mono ?_)) | (go_at_call 133; (with_reducible refine (word_Put.calls k 258 3 t105 _ A1.out).mono ?_))); rintro e w24 ⟨v106, rfl, ho0, hb⟩; (try refine ⟨_, rfl, ?_⟩); have n0_ := Aside0.mk (Kd.R_lower ho0 (below_size (Far.Bb HB.out))); have n1_ := Aside0.mk (below_step (Far.Bb HB.out) hb); clear HB; have HO107 := n0_; have HB := n1_; clear n0_ n1_; (try clear hb); (try clear hb2); (try clear hk); (try clear hi); (try clear ho0)) | ((first | ((with_reducible refine gate_callee (f := 134) rfl ?_); refine goesL_ (some 8) rfl rfl Try.func134 (by kernel_rfl) rfl #[.int .i64 5, .int .i64 6, .int .i64 10] rfl (by (try simp only [List.map_toArray, List.map_cons, List.map_nil]); first | done | rfl | (simp only [List.length_drop, List.length_take]; rfl)) ?_; (with_reducible refine (word_Add.calls 5 6 10 t108 false _ A2.out).mono ?_)) | (go_at_call 134; (with_reducible refine (word_Add.calls 5 6 10 t108 false _ A2.out).mono ?_))); rintro e w25 ⟨rfl, hb⟩; (try refine ⟨_, rfl, ?_⟩); have n0_ := Aside0.mk (Kd.R_below (Far.Ra HO107.out) hb); have n1_ := Aside0.mk (below_step (Far.Bb HB.out) hb); clear HO107 HB; have HO107 := n0_; have HB := n1_; clear n0_ n1_; (try clear hb); (try clear hb2); (try clear hk); (try clear hi)) | ((first | ((with_reducible refine gate_callee (f := 134) rfl ?_); refine goesL_ (some 12) rfl rfl Try.func134 (by kernel_rfl) rfl #[.int .i64 4, .int .i64 6, .int .i64 10] rfl (by (try simp only [List.map_toArray, List.map_cons, List.map_nil]); first | done | rfl | (simp only [List.length_drop, List.length_take]; rfl)) ?_; (with_reducible refine (word_Add.calls 4 6 10 t110 true _ A3.out).mono ?_)) | (go_at_call 134; (with_reducible refine (word_Add.calls 4 6 10 t110 true _ A3.out).mono ?_))); rintro e w26 ⟨rfl, hb⟩; (try refine ⟨_, rfl, ?_⟩); have n0_ := Aside0.mk (Kd.R_below (Far.Ra HO107.out) hb); have n1_ := Aside0.mk (below_step (Far.Bb HB.out) hb); clear HO107 HB; have HO107 := n0_; have HB := n1_; clear n0_ n1_; (try clear hb); (try clear hb2); (try clear hk); (try clear hi); obtain ⟨Ao27, co27, eo27⟩ := Kd.R_slice HO107.out; subst eo27; have p112 : 0 ≤ (0 : Int) := (by omega); have q112 : 0 < (t105.length : Int) := of_decide_eq_true (by first | (with_reducible assumption) | assumption); obtain ⟨ad112, e112, hx112_0⟩ := Kd.at_int (Kd.R_reads' HO107.out).2.2 0 p112 q112; cases e112; have qi112 : (0 < t105.length) = True := eq_true (by omega); (try rw [show ((0 : Int)).toNat = 0 from rfl] at hx112_0); (try rw [Addr.add_zero'] at hx112_0); replace p112 := eq_true p112; replace q112 := eq_true q112; have p113 : 0 ≤ (1 : Int) := (by omega); have q113 : 1 < (t105.length : Int) := of_decide_eq_true (by first | (with_reducible assumption) | assumption); obtain ⟨ad113, e113, hx113_0⟩ := Kd.at_int (Kd.R_reads' HO107.out).2.2 1 p113 q113; obtain rfl : ad112 = ad113 := (by injection e113); (try simp only [show (1 : Int).toNat = 1 from rfl, Nat.reduceMul, Nat.reduceEqDiff, Go.Addr.add, ↓reduceIte] at hx113_0); have qi113 : (1 < t105.length) = True := eq_true (by omega); (try rw [show ((1 : Int)).toNat = 1 from rfl] at hx113_0); replace p113 := eq_true p113; replace q113 := eq_true q113) | (go_at_call 39; (with_reducible refine (word_Signed.calls 7 3 t114 _ A16.out).mono ?_); rintro e w28 ⟨rfl, hb⟩; have n0_ := Aside0.mk (Kd.R_below (Far.Ra HO107.out) hb); have n1_ := Aside0.mk (below_step (Far.Bb HB.out) hb); clear HO107 HB; have HO107 := n0_; have HB := n1_; clear n0_ n1_; (try clear hb); (try clear hb2); (try clear hk); (try clear hi)))
                    go_ret
                    exact ⟨by first | rfl | (simp [errW_none, errW_some] <;> rfl) | (simp [*, errW_none, errW_some] <;> rfl) | (refine congrArg (fun z_ : Int => Ending.returned (.bool (z_ == _))) ?_; simp only [IntKind.wrap, IntKind.bits, IntKind.signed]; simp <;> omega), by repeat (first | (with_reducible first | exact HB.out | apply below_alloc | apply pw_below_drewN | apply below_drew1) | exact HB.out)⟩
                · replace c15 := Bool.eq_false_iff.mpr c15
                  subst c15
                  have H1 : (some false) = some r := by rw [if_neg (show ¬ (false = true) by decide)] at H; exact H
                  clear H
                  have H := H1
                  clear H1
                  obtain rfl := Option.some.inj H
                  go_enter Try.func35, Try.ntmps35
                  go_wp2_with (first | ((first | ((with_reducible refine gate_callee (f := 133) rfl ?_); refine goesL_ (some 6) rfl rfl Try.func133 (by kernel_rfl) rfl #[.int .u64 258, .int .i64 3] rfl (by (try simp only [List.map_toArray, List.map_cons, List.map_nil]); first | done | rfl | (simp only [List.length_drop, List.length_take]; rfl)) ?_; (with_reducible refine (word_Put.calls k 258 3 t105 _ A1.out).mono ?_)) | (go_at_call 133; (with_reducible refine (word_Put.calls k 258 3 t105 _ A1.out).mono ?_))); rintro e w29 ⟨v106, rfl, ho0, hb⟩; (try refine ⟨_, rfl, ?_⟩); have n0_ := Aside0.mk (Kd.R_lower ho0 (below_size (Far.Bb HB.out))); have n1_ := Aside0.mk (below_step (Far.Bb HB.out) hb); clear HB; have HO107 := n0_; have HB := n1_; clear n0_ n1_; (try clear hb); (try clear hb2); (try clear hk); (try clear hi); (try clear ho0)) | ((first | ((with_reducible refine gate_callee (f := 134) rfl ?_); refine goesL_ (some 8) rfl rfl Try.func134 (by kernel_rfl) rfl #[.int .i64 5, .int .i64 6, .int .i64 10] rfl (by (try simp only [List.map_toArray, List.map_cons, List.map_nil]); first | done | rfl | (simp only [List.length_drop, List.length_take]; rfl)) ?_; (with_reducible refine (word_Add.calls 5 6 10 t108 false _ A2.out).mono ?_)) | (go_at_call 134; (with_reducible refine (word_Add.calls 5 6 10 t108 false _ A2.out).mono ?_))); rintro e w30 ⟨rfl, hb⟩; (try refine ⟨_, rfl, ?_⟩); have n0_ := Aside0.mk (Kd.R_below (Far.Ra HO107.out) hb); have n1_ := Aside0.mk (below_step (Far.Bb HB.out) hb); clear HO107 HB; have HO107 := n0_; have HB := n1_; clear n0_ n1_; (try clear hb); (try clear hb2); (try clear hk); (try clear hi)) | ((first | ((with_reducible refine gate_callee (f := 134) rfl ?_); refine goesL_ (some 12) rfl rfl Try.func134 (by kernel_rfl) rfl #[.int .i64 4, .int .i64 6, .int .i64 10] rfl (by (try simp only [List.map_toArray, List.map_cons, List.map_nil]); first | done | rfl | (simp only [List.length_drop, List.length_take]; rfl)) ?_; (with_reducible refine (word_Add.calls 4 6 10 t110 false _ A3.out).mono ?_)) | (go_at_call 134; (with_reducible refine (word_Add.calls 4 6 10 t110 false _ A3.out).mono ?_))); rintro e w31 ⟨rfl, hb⟩; (try refine ⟨_, rfl, ?_⟩); have n0_ := Aside0.mk (Kd.R_below (Far.Ra HO107.out) hb); have n1_ := Aside0.mk (below_step (Far.Bb HB.out) hb); clear HO107 HB; have HO107 := n0_; have HB := n1_; clear n0_ n1_; (try clear hb); (try clear hb2); (try clear hk); (try clear hi); obtain ⟨Ao32, co32, eo32⟩ := Kd.R_slice HO107.out; subst eo32; have p112 : 0 ≤ (0 : Int) := (by omega); have q112 : 0 < (t105.length : Int) := of_decide_eq_true (by first | (with_reducible assumption) | assumption); obtain ⟨ad112, e112, hx112_0⟩ := Kd.at_int (Kd.R_reads' HO107.out).2.2 0 p112 q112; cases e112; have qi112 : (0 < t105.length) = True := eq_true (by omega); (try rw [show ((0 : Int)).toNat = 0 from rfl] at hx112_0); (try rw [Addr.add_zero'] at hx112_0); replace p112 := eq_true p112; replace q112 := eq_true q112; have p113 : 0 ≤ (1 : Int) := (by omega); have q113 : 1 < (t105.length : Int) := of_decide_eq_true (by first | (with_reducible assumption) | assumption); obtain ⟨ad113, e113, hx113_0⟩ := Kd.at_int (Kd.R_reads' HO107.out).2.2 1 p113 q113; obtain rfl : ad112 = ad113 := (by injection e113); (try simp only [show (1 : Int).toNat = 1 from rfl, Nat.reduceMul, Nat.reduceEqDiff, Go.Addr.add, ↓reduceIte] at hx113_0); have qi113 : (1 < t105.length) = True := eq_true (by omega); (try rw [show ((1 : Int)).toNat = 1 from rfl] at hx113_0); replace p113 := eq_true p113; replace q113 := eq_true q113))
                  go_ret
                  exact ⟨by first | rfl | (simp [errW_none, errW_some] <;> rfl) | (simp [*, errW_none, errW_some] <;> rfl) | (refine congrArg (fun z_ : Int => Ending.returned (.bool (z_ == _))) ?_; simp only [IntKind.wrap, IntKind.bits, IntKind.signed]; simp <;> omega), by repeat (first | (with_reducible first | exact HB.out | apply below_alloc | apply pw_below_drewN | apply below_drew1) | exact HB.out)⟩
              · rw [if_neg c14] at H
                have c14b0 : (t110 == 10) = false := beq_eq_false_iff_ne.mpr c14
                have c14b1 : (t110 != 10) = true := bne_iff_ne.mpr c14
                obtain rfl := Option.some.inj H
                go_enter Try.func35, Try.ntmps35
                go_wp2_with (first | ((first | ((with_reducible refine gate_callee (f := 133) rfl ?_); refine goesL_ (some 6) rfl rfl Try.func133 (by kernel_rfl) rfl #[.int .u64 258, .int .i64 3] rfl (by (try simp only [List.map_toArray, List.map_cons, List.map_nil]); first | done | rfl | (simp only [List.length_drop, List.length_take]; rfl)) ?_; (with_reducible refine (word_Put.calls k 258 3 t105 _ A1.out).mono ?_)) | (go_at_call 133; (with_reducible refine (word_Put.calls k 258 3 t105 _ A1.out).mono ?_))); rintro e w33 ⟨v106, rfl, ho0, hb⟩; (try refine ⟨_, rfl, ?_⟩); have n0_ := Aside0.mk (Kd.R_lower ho0 (below_size (Far.Bb HB.out))); have n1_ := Aside0.mk (below_step (Far.Bb HB.out) hb); clear HB; have HO107 := n0_; have HB := n1_; clear n0_ n1_; (try clear hb); (try clear hb2); (try clear hk); (try clear hi); (try clear ho0)) | ((first | ((with_reducible refine gate_callee (f := 134) rfl ?_); refine goesL_ (some 8) rfl rfl Try.func134 (by kernel_rfl) rfl #[.int .i64 5, .int .i64 6, .int .i64 10] rfl (by (try simp only [List.map_toArray, List.map_cons, List.map_nil]); first | done | rfl | (simp only [List.length_drop, List.length_take]; rfl)) ?_; (with_reducible refine (word_Add.calls 5 6 10 t108 false _ A2.out).mono ?_)) | (go_at_call 134; (with_reducible refine (word_Add.calls 5 6 10 t108 false _ A2.out).mono ?_))); rintro e w34 ⟨rfl, hb⟩; (try refine ⟨_, rfl, ?_⟩); have n0_ := Aside0.mk (Kd.R_below (Far.Ra HO107.out) hb); have n1_ := Aside0.mk (below_step (Far.Bb HB.out) hb); clear HO107 HB; have HO107 := n0_; have HB := n1_; clear n0_ n1_; (try clear hb); (try clear hb2); (try clear hk); (try clear hi)) | ((first | ((with_reducible refine gate_callee (f := 134) rfl ?_); refine goesL_ (some 12) rfl rfl Try.func134 (by kernel_rfl) rfl #[.int .i64 4, .int .i64 6, .int .i64 10] rfl (by (try simp only [List.map_toArray, List.map_cons, List.map_nil]); first | done | rfl | (simp only [List.length_drop, List.length_take]; rfl)) ?_; (with_reducible refine (word_Add.calls 4 6 10 t110 t111 _ A3.out).mono ?_)) | (go_at_call 134; (with_reducible refine (word_Add.calls 4 6 10 t110 t111 _ A3.out).mono ?_))); rintro e w35 ⟨rfl, hb⟩; (try refine ⟨_, rfl, ?_⟩); have n0_ := Aside0.mk (Kd.R_below (Far.Ra HO107.out) hb); have n1_ := Aside0.mk (below_step (Far.Bb HB.out) hb); clear HO107 HB; have HO107 := n0_; have HB := n1_; clear n0_ n1_; (try clear hb); (try clear hb2); (try clear hk); (try clear hi); obtain ⟨Ao36, co36, eo36⟩ := Kd.R_slice HO107.out; subst eo36; have p112 : 0 ≤ (0 : Int) := (by omega); have q112 : 0 < (t105.length : Int) := of_decide_eq_true (by first | (with_reducible assumption) | assumption); obtain ⟨ad112, e112, hx112_0⟩ := Kd.at_int (Kd.R_reads' HO107.out).2.2 0 p112 q112; cases e112; have qi112 : (0 < t105.length) = True := eq_true (by omega); (try rw [show ((0 : Int)).toNat = 0 from rfl] at hx112_0); (try rw [Addr.add_zero'] at hx112_0); replace p112 := eq_true p112; replace q112 := eq_true q112; have p113 : 0 ≤ (1 : Int) := (by omega); have q113 : 1 < (t105.length : Int) := of_decide_eq_true (by first | (with_reducible assumption) | assumption); obtain ⟨ad113, e113, hx113_0⟩ := Kd.at_int (Kd.R_reads' HO107.out).2.2 1 p113 q113; obtain rfl : ad112 = ad113 := (by injection e113); (try simp only [show (1 : Int).toNat = 1 from rfl, Nat.reduceMul, Nat.reduceEqDiff, Go.Addr.add, ↓reduceIte] at hx113_0); have qi113 : (1 < t105.length) = True := eq_true (by omega); (try rw [show ((1 : Int)).toNat = 1 from rfl] at hx113_0); replace p113 := eq_true p113; replace q113 := eq_true q113))
                go_ret
                exact ⟨by first | rfl | (simp [errW_none, errW_some] <;> rfl) | (simp [*, errW_none, errW_some] <;> rfl) | (refine congrArg (fun z_ : Int => Ending.returned (.bool (z_ == _))) ?_; simp only [IntKind.wrap, IntKind.bits, IntKind.signed]; simp <;> omega), by repeat (first | (with_reducible first | exact HB.out | apply below_alloc | apply pw_below_drewN | apply below_drew1) | exact HB.out)⟩
          · rw [if_neg c8] at H
            have c8b0 : ((rd t105 1) == 1) = false := beq_eq_false_iff_ne.mpr c8
            have c8b1 : ((rd t105 1) != 1) = true := bne_iff_ne.mpr c8
            obtain rfl := Option.some.inj H
            go_enter Try.func35, Try.ntmps35
            go_wp2_with (first | ((first | ((with_reducible refine gate_callee (f := 133) rfl ?_); refine goesL_ (some 6) rfl rfl Try.func133 (by kernel_rfl) rfl #[.int .u64 258, .int .i64 3] rfl (by (try simp only [List.map_toArray, List.map_cons, List.map_nil]); first | done | rfl | (simp only [List.length_drop, List.length_take]; rfl)) ?_; (with_reducible refine (word_Put.calls k 258 3 t105 _ A1.out).mono ?_)) | (go_at_call 133; (with_reducible refine (word_Put.calls k 258 3 t105 _ A1.out).mono ?_))); rintro e w37 ⟨v106, rfl, ho0, hb⟩; (try refine ⟨_, rfl, ?_⟩); have n0_ := Aside0.mk (Kd.R_lower ho0 (below_size (Far.Bb HB.out))); have n1_ := Aside0.mk (below_step (Far.Bb HB.out) hb); clear HB; have HO107 := n0_; have HB := n1_; clear n0_ n1_; (try clear hb); (try clear hb2); (try clear hk); (try clear hi); (try clear ho0)) | ((first | ((with_reducible refine gate_callee (f := 134) rfl ?_); refine goesL_ (some 8) rfl rfl Try.func134 (by kernel_rfl) rfl #[.int .i64 5, .int .i64 6, .int .i64 10] rfl (by (try simp only [List.map_toArray, List.map_cons, List.map_nil]); first | done | rfl | (simp only [List.length_drop, List.length_take]; rfl)) ?_; (with_reducible refine (word_Add.calls 5 6 10 t108 t109 _ A2.out).mono ?_)) | (go_at_call 134; (with_reducible refine (word_Add.calls 5 6 10 t108 t109 _ A2.out).mono ?_))); rintro e w38 ⟨rfl, hb⟩; (try refine ⟨_, rfl, ?_⟩); have n0_ := Aside0.mk (Kd.R_below (Far.Ra HO107.out) hb); have n1_ := Aside0.mk (below_step (Far.Bb HB.out) hb); clear HO107 HB; have HO107 := n0_; have HB := n1_; clear n0_ n1_; (try clear hb); (try clear hb2); (try clear hk); (try clear hi)) | ((first | ((with_reducible refine gate_callee (f := 134) rfl ?_); refine goesL_ (some 12) rfl rfl Try.func134 (by kernel_rfl) rfl #[.int .i64 4, .int .i64 6, .int .i64 10] rfl (by (try simp only [List.map_toArray, List.map_cons, List.map_nil]); first | done | rfl | (simp only [List.length_drop, List.length_take]; rfl)) ?_; (with_reducible refine (word_Add.calls 4 6 10 t110 t111 _ A3.out).mono ?_)) | (go_at_call 134; (with_reducible refine (word_Add.calls 4 6 10 t110 t111 _ A3.out).mono ?_))); rintro e w39 ⟨rfl, hb⟩; (try refine ⟨_, rfl, ?_⟩); have n0_ := Aside0.mk (Kd.R_below (Far.Ra HO107.out) hb); have n1_ := Aside0.mk (below_step (Far.Bb HB.out) hb); clear HO107 HB; have HO107 := n0_; have HB := n1_; clear n0_ n1_; (try clear hb); (try clear hb2); (try clear hk); (try clear hi); obtain ⟨Ao40, co40, eo40⟩ := Kd.R_slice HO107.out; subst eo40; have p112 : 0 ≤ (0 : Int) := (by omega); have q112 : 0 < (t105.length : Int) := of_decide_eq_true (by first | (with_reducible assumption) | assumption); obtain ⟨ad112, e112, hx112_0⟩ := Kd.at_int (Kd.R_reads' HO107.out).2.2 0 p112 q112; cases e112; have qi112 : (0 < t105.length) = True := eq_true (by omega); (try rw [show ((0 : Int)).toNat = 0 from rfl] at hx112_0); (try rw [Addr.add_zero'] at hx112_0); replace p112 := eq_true p112; replace q112 := eq_true q112; have p113 : 0 ≤ (1 : Int) := (by omega); have q113 : 1 < (t105.length : Int) := of_decide_eq_true (by first | (with_reducible assumption) | assumption); obtain ⟨ad113, e113, hx113_0⟩ := Kd.at_int (Kd.R_reads' HO107.out).2.2 1 p113 q113; obtain rfl : ad112 = ad113 := (by injection e113); (try simp only [show (1 : Int).toNat = 1 from rfl, Nat.reduceMul, Nat.reduceEqDiff, Go.Addr.add, ↓reduceIte] at hx113_0); have qi113 : (1 < t105.length) = True := eq_true (by omega); (try rw [show ((1 : Int)).toNat = 1 from rfl] at hx113_0); replace p113 := eq_true p113; replace q113 := eq_true q113))
            go_ret
            exact ⟨by first | rfl | (simp [errW_none, errW_some] <;> rfl) | (simp [*, errW_none, errW_some] <;> rfl) | (refine congrArg (fun z_ : Int => Ending.returned (.bool (z_ == _))) ?_; simp only [IntKind.wrap, IntKind.bits, IntKind.signed]; simp <;> omega), by repeat (first | (with_reducible first | exact HB.out | apply below_alloc | apply pw_below_drewN | apply below_drew1) | exact HB.out)⟩
        · rw [if_neg c7] at H
          exact absurd H (by simp)
      · rw [if_neg c6] at H
        have c6b0 : ((rd t105 0) == 2) = false := beq_eq_false_iff_ne.mpr c6
        have c6b1 : ((rd t105 0) != 2) = true := bne_iff_ne.mpr c6
        obtain rfl := Option.some.inj H
        go_enter Try.func35, Try.ntmps35
        go_wp2_with (first | ((first | ((with_reducible refine gate_callee (f := 133) rfl ?_); refine goesL_ (some 6) rfl rfl Try.func133 (by kernel_rfl) rfl #[.int .u64 258, .int .i64 3] rfl (by (try simp only [List.map_toArray, List.map_cons, List.map_nil]); first | done | rfl | (simp only [List.length_drop, List.length_take]; rfl)) ?_; (with_reducible refine (word_Put.calls k 258 3 t105 _ A1.out).mono ?_)) | (go_at_call 133; (with_reducible refine (word_Put.calls k 258 3 t105 _ A1.out).mono ?_))); rintro e w41 ⟨v106, rfl, ho0, hb⟩; (try refine ⟨_, rfl, ?_⟩); have n0_ := Aside0.mk (Kd.R_lower ho0 (below_size (Far.Bb HB.out))); have n1_ := Aside0.mk (below_step (Far.Bb HB.out) hb); clear HB; have HO107 := n0_; have HB := n1_; clear n0_ n1_; (try clear hb); (try clear hb2); (try clear hk); (try clear hi); (try clear ho0)) | ((first | ((with_reducible refine gate_callee (f := 134) rfl ?_); refine goesL_ (some 8) rfl rfl Try.func134 (by kernel_rfl) rfl #[.int .i64 5, .int .i64 6, .int .i64 10] rfl (by (try simp only [List.map_toArray, List.map_cons, List.map_nil]); first | done | rfl | (simp only [List.length_drop, List.length_take]; rfl)) ?_; (with_reducible refine (word_Add.calls 5 6 10 t108 t109 _ A2.out).mono ?_)) | (go_at_call 134; (with_reducible refine (word_Add.calls 5 6 10 t108 t109 _ A2.out).mono ?_))); rintro e w42 ⟨rfl, hb⟩; (try refine ⟨_, rfl, ?_⟩); have n0_ := Aside0.mk (Kd.R_below (Far.Ra HO107.out) hb); have n1_ := Aside0.mk (below_step (Far.Bb HB.out) hb); clear HO107 HB; have HO107 := n0_; have HB := n1_; clear n0_ n1_; (try clear hb); (try clear hb2); (try clear hk); (try clear hi)) | ((first | ((with_reducible refine gate_callee (f := 134) rfl ?_); refine goesL_ (some 12) rfl rfl Try.func134 (by kernel_rfl) rfl #[.int .i64 4, .int .i64 6, .int .i64 10] rfl (by (try simp only [List.map_toArray, List.map_cons, List.map_nil]); first | done | rfl | (simp only [List.length_drop, List.length_take]; rfl)) ?_; (with_reducible refine (word_Add.calls 4 6 10 t110 t111 _ A3.out).mono ?_)) | (go_at_call 134; (with_reducible refine (word_Add.calls 4 6 10 t110 t111 _ A3.out).mono ?_))); rintro e w43 ⟨rfl, hb⟩; (try refine ⟨_, rfl, ?_⟩); have n0_ := Aside0.mk (Kd.R_below (Far.Ra HO107.out) hb); have n1_ := Aside0.mk (below_step (Far.Bb HB.out) hb); clear HO107 HB; have HO107 := n0_; have HB := n1_; clear n0_ n1_; (try clear hb); (try clear hb2); (try clear hk); (try clear hi); obtain ⟨Ao44, co44, eo44⟩ := Kd.R_slice HO107.out; subst eo44; have p112 : 0 ≤ (0 : Int) := (by omega); have q112 : 0 < (t105.length : Int) := of_decide_eq_true (by first | (with_reducible assumption) | assumption); obtain ⟨ad112, e112, hx112_0⟩ := Kd.at_int (Kd.R_reads' HO107.out).2.2 0 p112 q112; cases e112; have qi112 : (0 < t105.length) = True := eq_true (by omega); (try rw [show ((0 : Int)).toNat = 0 from rfl] at hx112_0); (try rw [Addr.add_zero'] at hx112_0); replace p112 := eq_true p112; replace q112 := eq_true q112))
        go_ret
        exact ⟨by first | rfl | (simp [errW_none, errW_some] <;> rfl) | (simp [*, errW_none, errW_some] <;> rfl) | (refine congrArg (fun z_ : Int => Ending.returned (.bool (z_ == _))) ?_; simp only [IntKind.wrap, IntKind.bits, IntKind.signed]; simp <;> omega), by repeat (first | (with_reducible first | exact HB.out | apply below_alloc | apply pw_below_drewN | apply below_drew1) | exact HB.out)⟩
    · rw [if_neg c5] at H
      exact absurd H (by simp)
  · rw [if_neg c4] at H
    have c4b0 : ((t105.length : Int) == 3) = false := beq_eq_false_iff_ne.mpr c4
    have c4b1 : ((t105.length : Int) != 3) = true := bne_iff_ne.mpr c4
    obtain rfl := Option.some.inj H
    go_enter Try.func35, Try.ntmps35
    go_wp2_with (first | ((first | ((with_reducible refine gate_callee (f := 133) rfl ?_); refine goesL_ (some 6) rfl rfl Try.func133 (by kernel_rfl) rfl #[.int .u64 258, .int .i64 3] rfl (by (try simp only [List.map_toArray, List.map_cons, List.map_nil]); first | done | rfl | (simp only [List.length_drop, List.length_take]; rfl)) ?_; (with_reducible refine (word_Put.calls k 258 3 t105 _ A1.out).mono ?_)) | (go_at_call 133; (with_reducible refine (word_Put.calls k 258 3 t105 _ A1.out).mono ?_))); rintro e w45 ⟨v106, rfl, ho0, hb⟩; (try refine ⟨_, rfl, ?_⟩); have n0_ := Aside0.mk (Kd.R_lower ho0 (below_size (Far.Bb HB.out))); have n1_ := Aside0.mk (below_step (Far.Bb HB.out) hb); clear HB; have HO107 := n0_; have HB := n1_; clear n0_ n1_; (try clear hb); (try clear hb2); (try clear hk); (try clear hi); (try clear ho0)) | ((first | ((with_reducible refine gate_callee (f := 134) rfl ?_); refine goesL_ (some 8) rfl rfl Try.func134 (by kernel_rfl) rfl #[.int .i64 5, .int .i64 6, .int .i64 10] rfl (by (try simp only [List.map_toArray, List.map_cons, List.map_nil]); first | done | rfl | (simp only [List.length_drop, List.length_take]; rfl)) ?_; (with_reducible refine (word_Add.calls 5 6 10 t108 t109 _ A2.out).mono ?_)) | (go_at_call 134; (with_reducible refine (word_Add.calls 5 6 10 t108 t109 _ A2.out).mono ?_))); rintro e w46 ⟨rfl, hb⟩; (try refine ⟨_, rfl, ?_⟩); have n0_ := Aside0.mk (Kd.R_below (Far.Ra HO107.out) hb); have n1_ := Aside0.mk (below_step (Far.Bb HB.out) hb); clear HO107 HB; have HO107 := n0_; have HB := n1_; clear n0_ n1_; (try clear hb); (try clear hb2); (try clear hk); (try clear hi)) | ((first | ((with_reducible refine gate_callee (f := 134) rfl ?_); refine goesL_ (some 12) rfl rfl Try.func134 (by kernel_rfl) rfl #[.int .i64 4, .int .i64 6, .int .i64 10] rfl (by (try simp only [List.map_toArray, List.map_cons, List.map_nil]); first | done | rfl | (simp only [List.length_drop, List.length_take]; rfl)) ?_; (with_reducible refine (word_Add.calls 4 6 10 t110 t111 _ A3.out).mono ?_)) | (go_at_call 134; (with_reducible refine (word_Add.calls 4 6 10 t110 t111 _ A3.out).mono ?_))); rintro e w47 ⟨rfl, hb⟩; (try refine ⟨_, rfl, ?_⟩); have n0_ := Aside0.mk (Kd.R_below (Far.Ra HO107.out) hb); have n1_ := Aside0.mk (below_step (Far.Bb HB.out) hb); clear HO107 HB; have HO107 := n0_; have HB := n1_; clear n0_ n1_; (try clear hb); (try clear hb2); (try clear hk); (try clear hi); obtain ⟨Ao48, co48, eo48⟩ := Kd.R_slice HO107.out; subst eo48))
    go_ret
    exact ⟨by first | rfl | (simp [errW_none, errW_some] <;> rfl) | (simp [*, errW_none, errW_some] <;> rfl) | (refine congrArg (fun z_ : Int => Ending.returned (.bool (z_ == _))) ?_; simp only [IntKind.wrap, IntKind.bits, IntKind.signed]; simp <;> omega), by repeat (first | (with_reducible first | exact HB.out | apply below_alloc | apply pw_below_drewN | apply below_drew1) | exact HB.out)⟩

end Go.Proofs.Ytcjicfpdmegckaa.S
