/- Written by a program of this repo (wip/tools/gprint.py): what functions of the Go program compute, the proofs that they do, and the rows of statements. Conditions: those in each theorem. -/
import Derived.Test.YtliohoalackhiaaPTx0
import Derived.Test.YtliohoalackhiaaPTx4
import Derived.Test.YtliohoalackhiaaPW
namespace Go.Proofs.Ytliohoalackhiaa.T
open Go.RowKit Go.Proofs.YtliohoalackhiaaW.PrintWords Go.Proofs.YtliohoalackhiaaW.PrintLast Go.Proofs.YtliohoalackhiaaW.PrintMore
attribute [local go_sem] max2_int min2_int max_two min_two max_three min_three max_four min_four   -- for this text's walks alone
set_option linter.unusedVariables false
set_option linter.unusedSimpArgs false
mutual
def scullerlaw12_Arena.l0 : Nat → Int → Int → List (List Int) → Int → Option ((List (List Int)))
  | 0, _, _, _, _ => none
  | k + 1, x1, x2, x7, x8 => if x8 < (wrap64 (Int.tmod x2 40)) then (if 0 ≤ (wrap64 ((x7.length : Int) - 1)) then (if (wrap64 ((x7.length : Int) - 1)) < (x7.length : Int) then (if (rd_L3 x7 (wrap64 ((x7.length : Int) - 1))).length < 17592186044416 then (scullerlaw12_Arena.l0 k x1 x2 (x7.set ((wrap64 ((x7.length : Int) - 1)) : Int).toNat ((rd_L3 x7 (wrap64 ((x7.length : Int) - 1))) ++ [IntKind.u64.wrap ((IntKind.u64.wrap (x8)) * (IntKind.u64.wrap (x1)))])) (wrap64 (x8 + 1))) else (none)) else (none)) else (none)) else (scullerlaw12_Arena.l1 k x2 x7 0)
def scullerlaw12_Arena.l1 : Nat → Int → List (List Int) → Int → Option ((List (List Int)))
  | 0, _, _, _ => none
  | k + 1, x2, x7, x9 => if x9 < (wrap64 (Int.tmod x2 7)) then (if 0 ≤ x9 then (if (x9 : Int).toNat ≤ 35184372088832 then (if x7.length < 5864062014805 then (scullerlaw12_Arena.l1 k x2 (x7 ++ [(List.replicate (x9 : Int).toNat 0)]) (wrap64 (x9 + 1))) else (none)) else (none)) else (none)) else (some x7)
end
def scullerlaw12_Arena.f (k : Nat) (l0 : List Int) (a1 : Int) (a2 : Int) : Option ((List (List Int))) := (scullerlaw07_Arena.f k l0 a1).bind fun t132 => (scullerlaw12_Arena.l0 k a1 a2 t132 0)
set_option maxHeartbeats 8000000 in
set_option maxRecDepth 100000 in
theorem scullerlaw12_Arena.calls (k : Nat) (A0 : Option Addr) (c0 : Nat) (l0 : List Int) (a1 : Int) (a2 : Int) (r : List (List Int)) (w : World) (hr0 : Kd.C (Kd.int .u8) w A0 l0.length l0) (hc0 : l0.length ≤ c0) (h : scullerlaw12_Arena.f k l0 a1 a2 = some r) :
    Calls Try.prog 26 #[.slice A0 l0.length c0, .int .u8 a1, .int .u8 a2] w fun e w' => ∃ v0_ : Value, e = .returned (v0_) ∧ Kd.S (Kd.slice 38 (Kd.int .u64)) 50 w' w.heap.size (fun _ => True) v0_ r ∧ Below w.heap.size w w' := by
  have HR0 := Aside0.mk hr0
  have HC0 := Aside0.mk hc0
  clear hr0 hc0
  have HB := Aside0.mk (Below.refl w.heap.size w)
  have H : ((scullerlaw07_Arena.f k l0 a1).bind fun t132 => (scullerlaw12_Arena.l0 k a1 a2 t132 0)) = some r := h
  clear h
  replace H := Option.bind_eq_some_iff.mp H
  obtain ⟨t132, A40, H⟩ := H
  replace H : (scullerlaw12_Arena.l0 k a1 a2 t132 0) = some r := H
  have A4 := Aside0.mk A40
  clear A40
  have H' := Aside0.mk H
  clear H
  go_enter Try.func26, Try.ntmps26
  go_wp2_with (first | ((with_reducible refine gate_callee (f := 76) rfl ?_); refine goesL_ (some 12) rfl rfl Try.func76 (by kernel_rfl) rfl #[.slice A0 l0.length c0, .int .u8 a1] rfl (by (try simp only [List.map_toArray, List.map_cons, List.map_nil]); first | done | rfl | (simp only [List.length_drop, List.length_take]; rfl)) ?_; (with_reducible refine (scullerlaw07_Arena.calls k _ _ l0 a1 t132 _ ?side1 ?side2 A4.out).mono ?_); (case side1 => repeat (first | exact HR0.out | (with_reducible refine Kd.C_alloc ?_ _) | (with_reducible refine Kd.C_drewN ?_ _) | (with_reducible refine Kd.C_drew ?_))); (case side2 => exact HC0.out); rintro e w5 ⟨v133, rfl, ho0, hb⟩; refine ⟨_, rfl, ?_⟩; have n0_ := Aside0.mk (Kd.S_lower ho0 (below_size (Far.Bb HB.out))); have n1_ := Aside0.mk (below_step (Far.Bb HB.out) hb); clear HB; have HO134 := n0_; have HB := n1_; clear n0_ n1_; (try clear hb); (try clear hb2); (try clear hk); (try clear hi); (try clear ho0)))
  go_loopg [8] k (fun kq v8 w' => ∃ (x7_1 : List (List Int)) (x8_1 : Int), v8 = .int .i64 x8_1 ∧ Aside0 (scullerlaw12_Arena.l0 kq a1 a2 x7_1 x8_1 = some r) ∧ Aside0 (kq ≤ k) ∧ Aside0 (Kd.S (Kd.slice 38 (Kd.int .u64)) 50 w' w.heap.size (fun _ => True) v133 x7_1) ∧ Aside0 (Below w.heap.size w w'))
  case atStart => exact ⟨(t132), (0), (by first | rfl | (simp; done) | (simp [*]; done)), H', ⟨Nat.le_refl _⟩, ⟨by (with_reducible repeat (first | apply Kd.S_alloc | apply Kd.S_drewN | apply Kd.S_drew)); exact HO134.out⟩, ⟨by repeat (first | (with_reducible first | exact HB.out | apply below_alloc | apply pw_below_drewN | apply below_drew1) | exact HB.out)⟩⟩
  case round =>
    clear H'; (try clear c2); (try clear p2)
    obtain ⟨x7_1, x8_1, rfl, HA, HK1, HO_7, HB⟩ := hrel
    cases gk with
    | zero => exact absurd HA.out (by simp [scullerlaw12_Arena.l0])
    | succ k1 =>
      have H := HA.out
      clear HA
      simp only [scullerlaw12_Arena.l0] at H
      by_cases c6 : x8_1 < (wrap64 (Int.tmod a2 40))
      · rw [if_pos c6] at H
        have c6b0 : decide (x8_1 < (wrap64 (Int.tmod a2 40))) = true := decide_eq_true c6
        clear c6
        obtain ⟨ji7, hji7⟩ : ∃ j_ : Int, (wrap64 ((x7_1.length : Int) - 1)) = j_ := ⟨_, rfl⟩
        replace H : (if 0 ≤ (ji7) then (if (ji7) < (x7_1.length : Int) then (if (rd_L3 x7_1 (ji7)).length < 17592186044416 then (scullerlaw12_Arena.l0 k1 a1 a2 (x7_1.set ((ji7) : Int).toNat ((rd_L3 x7_1 (ji7)) ++ [IntKind.u64.wrap ((IntKind.u64.wrap (x8_1)) * (IntKind.u64.wrap (a1)))])) (wrap64 (x8_1 + 1))) else (none)) else (none)) else (none)) = some r := by first | (rw [hji7] at H; exact H) | (simp only [hji7] at H ⊢; exact H)
        have hji7w : (IntKind.i64.wrap ((x7_1.length : Int) - 1)) = ji7 := (i64_w _).trans hji7
        by_cases c8 : 0 ≤ (ji7)
        · rw [if_pos c8] at H
          have c8b0 : decide (0 ≤ (ji7)) = true := decide_eq_true c8
          clear c8
          by_cases c9 : (ji7) < (x7_1.length : Int)
          · rw [if_pos c9] at H
            have c9b0 : decide ((ji7) < (x7_1.length : Int)) = true := decide_eq_true c9
            clear c9
            by_cases c10 : (rd_L3 x7_1 (ji7)).length < 17592186044416
            · rw [if_pos c10] at H
              have LMc10 := Aside0.mk c10
              clear c10
              obtain ⟨y136, hy136⟩ : ∃ y_ : List Int, y_ = ((rd_L3 x7_1 (ji7)) ++ [IntKind.u64.wrap ((IntKind.u64.wrap (x8_1)) * (IntKind.u64.wrap (a1)))]) := ⟨_, rfl⟩
              replace H : (scullerlaw12_Arena.l0 k1 a1 a2 (x7_1.set ((ji7) : Int).toNat y136) (wrap64 (x8_1 + 1))) = some r := by first | (rw [hy136]; with_reducible exact H) | (have H2_ := (Option.bind_some _ _).symm.trans H; rw [hy136]; with_reducible exact H2_) | (have H2_ := (Option.bind_some _ _).symm.trans H; with_reducible exact H2_) | with_reducible exact H | (rw [hy136]; exact H) | exact H
              have Ny136 := Aside0.mk hy136
              clear hy136
              obtain ⟨y139, hy139⟩ : ∃ y_ : List (List Int), y_ = (x7_1.set ((ji7) : Int).toNat y136) := ⟨_, rfl⟩
              replace H : (scullerlaw12_Arena.l0 k1 a1 a2 y139 (wrap64 (x8_1 + 1))) = some r := by first | (rw [hy139]; with_reducible exact H) | (have H2_ := (Option.bind_some _ _).symm.trans H; rw [hy139]; with_reducible exact H2_) | (have H2_ := (Option.bind_some _ _).symm.trans H; with_reducible exact H2_) | with_reducible exact H | (rw [hy139]; exact H) | exact H
              have Ny139 := Aside0.mk hy139
              clear hy139
              have H' := Aside0.mk H
              clear H
              obtain ⟨Ao12, co12, eo12⟩ := Kd.S_slice HO_7.out
              subst eo12
              have p135 : 0 ≤ ((ji7) : Int) := of_decide_eq_true (by first | (with_reducible assumption) | assumption)
              have q135 : (ji7) < (x7_1.length : Int) := of_decide_eq_true (by first | (with_reducible assumption) | assumption)
              obtain ⟨ad135, A135_0, c135_0, e135, hx135_0, hl135_0, hi135_0⟩ := at_L3 (Kd.S_reads' HO_7.out).2.2 (ji7) p135 q135
              cases e135
              obtain ⟨ce135, hce135, hMe135, hcc135⟩ := Kd.S_get HO_7.out [] (ji7) p135 (by first | exact q135 | exact of_decide_eq_true (by first | (with_reducible assumption) | assumption) | (have e_ := (Kd.S_reads' HO_7.out).1; omega))
              obtain ⟨ve135_0, rfl, ge135_0⟩ := hMe135
              have hv135_0 := hcc135 0 _ rfl
              rw [Nat.add_zero, show ((Kd.slice 38 (Kd.int .u64))).sz = 1 from rfl, Nat.mul_one] at hv135_0
              replace hv135_0 := Option.some.inj (hv135_0.symm.trans hx135_0)
              rw [hv135_0] at ge135_0
              have HL135_0 := Aside0.mk (show Kd.R (Kd.int .u64) 38 _ _ _ _ (rd_L3 x7_1 (ji7)) from ge135_0)
              clear hv135_0 ge135_0
              have HX135_0 := Aside0.mk hx135_0
              clear hcc135 hce135
              have HR135_0 := Aside0.mk hi135_0
              have HC135_0 := Aside0.mk hl135_0
              clear hi135_0 hl135_0
              replace p135 := eq_true p135
              replace q135 := eq_true q135
              obtain ⟨go13, co13, eo13, gb13, gl13, cl13, HG13⟩ := Kd.S_form HO_7.out (by have h_ : ((ji7) : Int) < ((x7_1.length : Int) : Int) := of_decide_eq_true (by first | (with_reducible assumption) | assumption); have h2_ : 0 ≤ ((ji7) : Int) := (of_decide_eq_true (by first | (with_reducible assumption) | assumption)); omega)
              (first | cases eo13 | (injection eo13 with ea_ en_ ec_; (first | subst ea_ | (injection ea_ with ea_; subst ea_)); subst ec_; clear en_))
              have GB13 := Aside0.mk gb13
              have GG13 := Aside0.mk HG13
              clear gb13 gl13 HG13
              (first | simp only [add_plain] at hx135_0 | skip)
              obtain ⟨oki13, ce13, hcl13, hM13, hcc13, _, _, hH13⟩ := Kd.S_elem HO_7.out [] ((ji7) : Int) (of_decide_eq_true (by first | (with_reducible assumption) | assumption)) (by have h_ : ((ji7) : Int) < ((x7_1.length : Int) : Int) := of_decide_eq_true (by first | (with_reducible assumption) | assumption); first | exact h_ | (have e_ := (Kd.S_reads' HO_7.out).1; omega) | simpa using h_)
              obtain ⟨ve13_0, rfl, ge13_0⟩ := hM13
              have hv13 := hcc13 0 _ rfl
              have hX13 := HX135_0.out
              (try simp only [add_plain] at hX13)
              (try simp only [Nat.add_zero] at hv13)
              (try rw [show ((Kd.slice 38 (Kd.int .u64))).sz = 1 from rfl, Nat.mul_one] at hv13)
              replace hv13 := Option.some.inj (hv13.symm.trans hX13)
              subst hv13
              clear hX13 hcc13 hcl13
              have UU13 := Aside0.mk (show Kd.R (Kd.int .u64) 38 _ w.heap.size oki13 (.slice A135_0 (rd_L3 x7_1 (ji7)).length c135_0) (rd_L3 x7_1 (ji7)) from ge13_0)
              have HH13 := Aside0.mk hH13
              have HN13 := Aside0.mk (Kd.S_reads' HO_7.out).1
              clear hH13 ge13_0
              go_wp2_with (first | ((with_reducible refine gate_builtin (b := .append) (xs := #[.tmp 29, .tmp 35]) rfl ?_); at_builtin; refine Kd.R_append (Kd.int .u64) (w0 := w) w.heap.size rfl (.tmp 29) (.tmp 35) 50 38 (.int .u64 0) 8 rfl Try.underlying50 info38 rfl (by decide) (by omega) (.slice A135_0 (rd_L3 x7_1 (ji7)).length c135_0) (rd_L3 x7_1 (ji7)) (IntKind.u64.wrap ((IntKind.u64.wrap (x8_1)) * (IntKind.u64.wrap (a1)))) [.int .u64 (IntKind.u64.wrap ((IntKind.u64.wrap (x8_1)) * (IntKind.u64.wrap (a1))))] (fun k_ => oki13 k_ ∨ ((fun _ => True)) k_ ∧ wr.heap.size ≤ k_) (fun _ => False) rfl rfl ?aP (fun _ hk => hk.elim) ?aF ?aO ?aB ?aS ?aL ?_; (case aP => exact rfl); (case aB => exact (Far.Bb HB.out)); (case aF => exact (fun k_ hk => .inr ⟨trivial, hk⟩)); (case aO => exact (Far.Ra (Kd.R_mono UU13.out (fun _ hk => .inl hk)))); (case aS => exact (below_size (Far.Bb HB.out))); (case aL => have := LMc10.out; omega); intro v137 w14 ho hb hg hat; rw [← Ny136.out] at ho; have n0_ := Aside0.mk (hb); have n1_ := Aside0.mk (Kd.H_grown (Kd.H_widen (by repeat (first | exact HH13.out | refine Kd.H_alloc ?_ _ | refine Kd.H_drewN ?_ _ | refine Kd.H_drew ?_))) hg (fun k_ e_ => .inl (UU13.out.1 k_ e_))); have n2_ := Aside0.mk (ho); clear HB HH13 HO_7 UU13 HL135_0; have HB := n0_; have HH13 := n1_; have HO138 := n2_; clear n0_ n1_ n2_; clear ho hb hg hat; have p11 : 0 ≤ ((ji7) : Int) := of_decide_eq_true (by first | (with_reducible assumption) | assumption); have q11 : ((ji7) : Int) < ((x7_1.length : Int) : Int) := of_decide_eq_true (by first | (with_reducible assumption) | assumption); replace p11 := eq_true p11; replace q11 := eq_true q11; obtain ⟨Ao17, co17, eo17⟩ := Kd.R_slice HO138.out; subst eo17; obtain ⟨_, _, hraw15, _, _, hcc15, _⟩ := Kd.H_raw HH13.out (of_decide_eq_true (by first | (with_reducible assumption) | assumption)) (by have h_ : ((ji7) : Int) < ((x7_1.length : Int) : Int) := of_decide_eq_true (by first | (with_reducible assumption) | assumption); first | exact h_ | (have e_ := (HN13.out); omega) | simpa using h_); obtain ⟨_, hfr15⟩ := Kd.H_at HH13.out (of_decide_eq_true (by first | (with_reducible assumption) | assumption)) (by have h_ : ((ji7) : Int) < ((x7_1.length : Int) : Int) := of_decide_eq_true (by first | (with_reducible assumption) | assumption); first | exact h_ | (have e_ := (HN13.out); omega) | simpa using h_); have hx15_0 := hcc15 0 _ rfl; have hf15_0 := hfr15 0; (try simp only [Nat.add_zero] at hx15_0 hf15_0); (try rw [show ((Kd.slice 38 (Kd.int .u64))).sz = 1 from rfl, Nat.mul_one] at hx15_0); (try rw [show ((Kd.slice 38 (Kd.int .u64))).sz = 1 from rfl, Nat.mul_one] at hf15_0); have HP15 := Kd.S_seg0 HH13.out (of_decide_eq_true (by first | (with_reducible assumption) | assumption)) (by have h_ : ((ji7) : Int) < ((x7_1.length : Int) : Int) := of_decide_eq_true (by first | (with_reducible assumption) | assumption); first | exact h_ | (have e_ := (HN13.out); omega) | simpa using h_) (seg := [.slice Ao17 y136.length co17]) (j := 0) (show 1 ≤ 1 from by decide) (x' := y136) (Kd.M_row HO138.out) (fun _ hk => hk); (try simp only [show ((Kd.slice 38 (Kd.int .u64))).sz = 1 from rfl, Nat.mul_one, Nat.add_zero] at HP15); clear hcc15 hfr15) | ((with_reducible refine gate_store (t := 50) (p := 37) rfl ?_); refine store_event (t := 50) (p := 37) (v := ?vo_w16) (w1 := (w14.setCell ⟨go13, ((ji7) : Int).toNat, none⟩ (.slice Ao17 y136.length co17))) ?hg ?ho ?hn ?hr ?_; (case ho => rfl); (case hg => rfl); (case hn => rfl); (case hr => first | (go_simp; done) | (go_simp; rfl)); intro w16 hw; have hg : w14.grownBy w16 (some go13) := (by rw [hw]; exact HP15.2); have hp_ : Kd.S (Kd.slice 38 (Kd.int .u64)) 50 w16 w.heap.size (fun _ => True) (.slice (some ⟨go13, 0, none⟩) x7_1.length co12) y139 := (by rw [hw, Ny139.out]; exact HP15.1); clear HP15; have n0_ := Aside0.mk ((by rw [hw]; exact below_set HB.out GB13.out : Below w.heap.size w w16)); have n1_ := Aside0.mk (hp_); clear HB HO138 HH13; have HB := n0_; have HO_7 := n1_; clear n0_ n1_; clear hg hw hp_ hraw15))
              go_roundg k1
              case measure => have := HK1.out; omega
              case rel => exact ⟨(y139), (wrap64 (x8_1 + 1)), (by first | rfl | (simp; done) | (simp [*]; done)), H', ⟨by have := HK1.out; omega⟩, ⟨by (with_reducible repeat (first | apply Kd.S_alloc | apply Kd.S_drewN | apply Kd.S_drew)); exact HO_7.out⟩, ⟨by repeat (first | (with_reducible first | exact HB.out | apply below_alloc | apply pw_below_drewN | apply below_drew1) | exact HB.out)⟩⟩
            · rw [if_neg c10] at H
              exact absurd H (by simp)
          · rw [if_neg c9] at H
            exact absurd H (by simp)
        · rw [if_neg c8] at H
          exact absurd H (by simp)
      · rw [if_neg c6] at H
        have c6b0 : decide (x8_1 < (wrap64 (Int.tmod a2 40))) = false := decide_eq_false c6
        clear c6
        have H' := Aside0.mk H
        clear H
        go_wp2
        go_loopg [7, 9] k1 (fun kq v7 v9 w' => ∃ (x7_2 : List (List Int)) (x9_2 : Int), v9 = .int .i64 x9_2 ∧ Aside0 (scullerlaw12_Arena.l1 kq a2 x7_2 x9_2 = some r) ∧ Aside0 (kq ≤ k1) ∧ Aside0 (Kd.S (Kd.slice 38 (Kd.int .u64)) 50 w' w.heap.size (fun _ => True) v7 x7_2) ∧ Aside0 (Below w.heap.size w w'))
        case atStart => exact ⟨(x7_1), (0), (by first | rfl | (simp; done) | (simp [*]; done)), H', ⟨Nat.le_refl _⟩, ⟨by (with_reducible repeat (first | apply Kd.S_alloc | apply Kd.S_drewN | apply Kd.S_drew)); exact HO_7.out⟩, ⟨by repeat (first | (with_reducible first | exact HB.out | apply below_alloc | apply pw_below_drewN | apply below_drew1) | exact HB.out)⟩⟩
        case round =>
          clear H'; (try clear c1); (try clear p1); (try clear q1); (try clear hx1); (try clear c2); (try clear p2); (try clear c6); (try clear c6b0); (try clear p6); (try clear c7); (try clear c8); (try clear c8b0); (try clear c9); (try clear c9b0); (try clear c10); (try clear p11); (try clear q11); (try clear c13); (try clear p13); (try clear q13); (try clear hx13); (try clear c15); (try clear hx15); (try clear hf15); (try clear hx135_0); (try clear hx15_0); (try clear p11); (try clear p135); (try clear p2); (try clear q11); (try clear q135)
          obtain ⟨x7_2, x9_2, rfl, HA, HK2, HO_7, HB⟩ := hrel
          cases gk with
          | zero => exact absurd HA.out (by simp [scullerlaw12_Arena.l1])
          | succ k2 =>
            have H := HA.out
            clear HA
            simp only [scullerlaw12_Arena.l1] at H
            by_cases c18 : x9_2 < (wrap64 (Int.tmod a2 7))
            · rw [if_pos c18] at H
              have c18b0 : decide (x9_2 < (wrap64 (Int.tmod a2 7))) = true := decide_eq_true c18
              clear c18
              by_cases c19 : 0 ≤ x9_2
              · rw [if_pos c19] at H
                have c19b0 := eq_true c19
                have c19b1 : decide (0 ≤ x9_2) = true := decide_eq_true c19
                clear c19
                by_cases c20 : (x9_2 : Int).toNat ≤ 35184372088832
                · rw [if_pos c20] at H
                  have c20b0 := eq_true c20
                  have c20b1 : decide ((x9_2 : Int).toNat ≤ 35184372088832) = true := decide_eq_true c20
                  clear c20
                  obtain ⟨y140, hy140⟩ : ∃ y_ : List Int, y_ = (List.replicate (x9_2 : Int).toNat 0) := ⟨_, rfl⟩
                  replace H : (if x7_2.length < 5864062014805 then (scullerlaw12_Arena.l1 k2 a2 (x7_2 ++ [y140]) (wrap64 (x9_2 + 1))) else (none)) = some r := by first | (rw [hy140]; with_reducible exact H) | (have H2_ := (Option.bind_some _ _).symm.trans H; rw [hy140]; with_reducible exact H2_) | (have H2_ := (Option.bind_some _ _).symm.trans H; with_reducible exact H2_) | with_reducible exact H | (rw [hy140]; exact H) | exact H
                  have Ny140 := Aside0.mk hy140
                  clear hy140
                  by_cases c21 : x7_2.length < 5864062014805
                  · rw [if_pos c21] at H
                    have LMc21 := Aside0.mk c21
                    clear c21
                    obtain ⟨y143, hy143⟩ : ∃ y_ : List (List Int), y_ = (x7_2 ++ [y140]) := ⟨_, rfl⟩
                    replace H : (scullerlaw12_Arena.l1 k2 a2 y143 (wrap64 (x9_2 + 1))) = some r := by first | (rw [hy143]; with_reducible exact H) | (have H2_ := (Option.bind_some _ _).symm.trans H; rw [hy143]; with_reducible exact H2_) | (have H2_ := (Option.bind_some _ _).symm.trans H; with_reducible exact H2_) | with_reducible exact H | (rw [hy143]; exact H) | exact H
                    have Ny143 := Aside0.mk hy143
                    clear hy143
                    have H' := Aside0.mk H
                    clear H
                    go_wp2_with (first | ((with_reducible refine gate_dst (N := 47) rfl ?_); refine Kd.R_make (Kd.int .u64) _ 38 rfl (N := 47) rfl 50 _ _ rfl x9_2 rfl rfl Try.underlying50 (.int .u64 0) 8 info38 rfl (by decide) (by omega) 0 (ok := fun _ => True) (okp := fun _ => True) rfl (fun _ hk => hk) trivial (of_decide_eq_true (by first | (with_reducible assumption) | assumption)) (Nat.le_trans (Nat.mul_le_mul_right _ (of_decide_eq_true (by first | (with_reducible assumption) | assumption) : x9_2.toNat ≤ 35184372088832)) (by omega)) (Below.refl _ _) (Nat.le_refl _) ?_; intro v141 w22 ho23 hb hg_ hnew_; clear hg_ hnew_; (first | rw [← Ny140.out] at ho23 | (simp only [Int.reduceToNat] at ho23; rw [← Ny140.out] at ho23)); have n0_ := Aside0.mk (Kd.S_elder' (by (with_reducible repeat (first | apply Kd.S_alloc | apply Kd.S_drewN | apply Kd.S_drew)); exact HO_7.out) (Kd.R_base ho23) hb); have n1_ := Aside0.mk (Kd.R_lower ho23 (below_size (Far.Bb HB.out))); have n2_ := Aside0.mk (below_step (Far.Bb HB.out) hb); clear HO_7 HB; have HO_7 := n0_; have HO142 := n1_; have HB := n2_; clear n0_ n1_ n2_; clear hb ho23; obtain ⟨Ao25, co25, eo25⟩ := Kd.R_slice HO142.out; subst eo25) | ((with_reducible refine gate_builtin (b := .append) (xs := #[.tmp 45, .tmp 48]) rfl ?_); at_builtin; refine Kd.S_append (Kd.slice 38 (Kd.int .u64)) (w0 := w) w.heap.size rfl (.tmp 45) (.tmp 48) 40 50 (.slice none 0 0) 24 rfl Try.underlying40 info50 rfl (by decide) (by omega) u7 x7_2 y140 [.slice Ao25 y140.length co25] (fun _ => True) (fun k_ => some k_ = (.slice Ao25 y140.length co25 : Value).ownBlock) rfl rfl ?aP (fun k_ hk_ => ((Kd.R_mono (ok' := fun k_ => ((fun _ => True)) k_ ∧ some k_ ≠ (u7 : Value).ownBlock) (Kd.R_apart' (HO142.out) (Kd.S_typed HO_7.out) (by decide)) (fun k_ hk => ⟨trivial, hk.2⟩))).1 k_ hk_.symm) ?aF ?aO ?aB ?aS ?aL ?_; (case aP => exact Kd.M_row (Kd.R_mono (Kd.R_tight rfl (Kd.R_mono (ok' := fun k_ => ((fun _ => True)) k_ ∧ some k_ ≠ (u7 : Value).ownBlock) (Kd.R_apart' (HO142.out) (Kd.S_typed HO_7.out) (by decide)) (fun k_ hk => ⟨trivial, hk.2⟩))) (fun _ h_ => h_))); (case aB => exact (Far.Bb HB.out)); (case aF => exact (fun _ _ => trivial)); (case aO => exact (by (with_reducible repeat (first | apply Kd.S_alloc | apply Kd.S_drewN | apply Kd.S_drew)); exact Kd.S_mono HO_7.out (fun k_ hk => ⟨trivial, fun e_ => hk.2 e_⟩))); (case aS => exact (below_size (Far.Bb HB.out))); (case aL => have := LMc21.out; omega); intro v144 w24 ho hb hg hat; rw [← Ny143.out] at ho; have n0_ := Aside0.mk (hb); have n1_ := Aside0.mk (ho); clear HB HO_7 HO142; have HB := n0_; have HO145 := n1_; clear n0_ n1_; clear ho hb hg hat))
                    go_roundg k2
                    case measure => have := HK1.out; have := HK2.out; omega
                    case rel => exact ⟨(y143), (wrap64 (x9_2 + 1)), (by first | rfl | (simp; done) | (simp [*]; done)), H', ⟨by have := HK1.out; have := HK2.out; omega⟩, ⟨by (with_reducible repeat (first | apply Kd.S_alloc | apply Kd.S_drewN | apply Kd.S_drew)); exact HO145.out⟩, ⟨by repeat (first | (with_reducible first | exact HB.out | apply below_alloc | apply pw_below_drewN | apply below_drew1) | exact HB.out)⟩⟩
                  · rw [if_neg c21] at H
                    exact absurd H (by simp)
                · rw [if_neg c20] at H
                  exact absurd H (by simp)
              · rw [if_neg c19] at H
                exact absurd H (by simp)
            · rw [if_neg c18] at H
              have c18b0 : decide (x9_2 < (wrap64 (Int.tmod a2 7))) = false := decide_eq_false c18
              clear c18
              obtain rfl := Option.some.inj H
              go_wp2
              go_ret
              exact ⟨_, by first | rfl | (simp [errW_none, errW_some] <;> rfl) | (simp [*, errW_none, errW_some] <;> rfl) | (refine congrArg (fun z_ : Int => Ending.returned (.bool (z_ == _))) ?_; simp only [IntKind.wrap, IntKind.bits, IntKind.signed]; simp <;> omega), by (with_reducible repeat (first | apply Kd.S_alloc | apply Kd.S_drewN | apply Kd.S_drew)); exact HO_7.out, by repeat (first | (with_reducible first | exact HB.out | apply below_alloc | apply pw_below_drewN | apply below_drew1) | exact HB.out)⟩
def scullerref01_Put.l0 : Nat → Int → Int → List Int → Int → Option (List Int)
  | 0, _, _, _, _ => none
  | k + 1, x0, x1, x5, x6 => if x6 < x1 then (if x6 < 8 then (if x5.length < 140737488355328 then (scullerref01_Put.l0 k (IntKind.u64.wrap (Int.tdiv x0 256)) x1 (x5 ++ [(Int.tmod x0 256) % 256]) (wrap64 (x6 + 1))) else (none)) else (some x5)) else (some x5)
def scullerref01_Put.f (k : Nat) (a0 : Int) (a1 : Int) : Option (List Int) := scullerref01_Put.l0 k a0 a1 ([] : List Int) 0
set_option maxHeartbeats 8000000 in
set_option maxRecDepth 100000 in
theorem scullerref01_Put.calls (k : Nat) (a0 : Int) (a1 : Int) (r : List Int) (w : World) (h : scullerref01_Put.f k a0 a1 = some r) :
    Calls Try.prog 90 #[.int .u64 a0, .int .i64 a1] w fun e w' => ∃ v0_ : Value, e = .returned (v0_) ∧ Kd.R (Kd.int .u8) 5 w' w.heap.size (fun _ => True) v0_ r ∧ Below w.heap.size w w' := by
  have HB := Aside0.mk (Below.refl w.heap.size w)
  have H : (scullerref01_Put.l0 k a0 a1 ([] : List Int) 0) = some r := h
  clear h
  have H' := Aside0.mk H
  clear H
  go_enter Try.func90, Try.ntmps90
  go_wp2
  go_loopg [0, 5, 6] k (fun kq v0 v5 v6 w' => ∃ (x0_1 : Int) (x5_1 : List Int) (x6_1 : Int), v0 = .int .u64 x0_1 ∧ v6 = .int .i64 x6_1 ∧ Aside0 (scullerref01_Put.l0 kq x0_1 a1 x5_1 x6_1 = some r) ∧ Aside0 (kq ≤ k) ∧ Aside0 (Kd.R (Kd.int .u8) 5 w' w.heap.size (fun _ => True) v5 x5_1) ∧ Aside0 (Below w.heap.size w w'))
  case atStart => exact ⟨(a0), (([] : List Int)), (0), (by first | rfl | (simp; done) | (simp [*]; done)), (by first | rfl | (simp; done) | (simp [*]; done)), H', ⟨Nat.le_refl _⟩, ⟨by first | exact Kd.R_nil _ _ _ _ _ | exact Kd.N_nil _ _ _ _ _ | exact Kd.V_nil _ _ _ _ _ | exact Kd.Q_nil _ _ _ _ _ | exact Kd.S_nil _ _ _ _ _⟩, ⟨by repeat (first | (with_reducible first | exact HB.out | apply below_alloc | apply pw_below_drewN | apply below_drew1) | exact HB.out)⟩⟩
  case round =>
    clear H'; (try clear p2)
    obtain ⟨x0_1, x5_1, x6_1, rfl, rfl, HA, HK1, HO_5, HB⟩ := hrel
    cases gk with
    | zero => exact absurd HA.out (by simp [scullerref01_Put.l0])
    | succ k1 =>
      have H := HA.out
      clear HA
      simp only [scullerref01_Put.l0] at H
      by_cases c3 : x6_1 < a1
      · rw [if_pos c3] at H
        have c3b0 : decide (x6_1 < a1) = true := decide_eq_true c3
        clear c3
        by_cases c4 : x6_1 < 8
        · rw [if_pos c4] at H
          have c4b0 : decide (x6_1 < 8) = true := decide_eq_true c4
          clear c4
          by_cases c5 : x5_1.length < 140737488355328
          · rw [if_pos c5] at H
            have LMc5 := Aside0.mk c5
            clear c5
            obtain ⟨y146, hy146⟩ : ∃ y_ : List Int, y_ = (x5_1 ++ [(Int.tmod x0_1 256) % 256]) := ⟨_, rfl⟩
            replace H : (scullerref01_Put.l0 k1 (IntKind.u64.wrap (Int.tdiv x0_1 256)) a1 y146 (wrap64 (x6_1 + 1))) = some r := by first | (rw [hy146]; with_reducible exact H) | (have H2_ := (Option.bind_some _ _).symm.trans H; rw [hy146]; with_reducible exact H2_) | (have H2_ := (Option.bind_some _ _).symm.trans H; with_reducible exact H2_) | with_reducible exact H | (rw [hy146]; exact H) | exact H
            have Ny146 := Aside0.mk hy146
            clear hy146
            have H' := Aside0.mk H
            clear H
            go_wp2_with (first | ((with_reducible refine gate_builtin (b := .append) (xs := #[.tmp 16, .tmp 20]) rfl ?_); at_builtin; refine Kd.R_append (Kd.int .u8) (w0 := w) w.heap.size rfl (.tmp 16) (.tmp 20) 22 5 (.int .u8 0) 1 rfl Try.underlying22 info5 rfl (by decide) (by omega) u5 x5_1 ((Int.tmod x0_1 256) % 256) [.int .u8 ((Int.tmod x0_1 256) % 256)] (fun _ => True) (fun _ => False) rfl rfl ?aP (fun _ hk => hk.elim) ?aF ?aO ?aB ?aS ?aL ?_; (case aP => exact rfl); (case aB => exact (Far.Bb HB.out)); (case aF => exact (fun _ _ => trivial)); (case aO => exact (Far.Ra HO_5.out)); (case aS => exact (below_size (Far.Bb HB.out))); (case aL => have := LMc5.out; omega); intro v147 w6 ho hb hg hat; rw [← Ny146.out] at ho; have n0_ := Aside0.mk (hb); have n1_ := Aside0.mk (ho); clear HB HO_5; have HB := n0_; have HO148 := n1_; clear n0_ n1_; clear ho hb hg hat))
            go_roundg k1
            case measure => have := HK1.out; omega
            case rel => exact ⟨(IntKind.u64.wrap (Int.tdiv x0_1 256)), (y146), (wrap64 (x6_1 + 1)), (by first | rfl | (simp; done) | (simp [*]; done)), (by first | rfl | (simp; done) | (simp [*]; done)), H', ⟨by have := HK1.out; omega⟩, ⟨by (with_reducible repeat (first | apply Kd.R_alloc | apply Kd.R_drewN | apply Kd.R_drew)); exact HO148.out⟩, ⟨by repeat (first | (with_reducible first | exact HB.out | apply below_alloc | apply pw_below_drewN | apply below_drew1) | exact HB.out)⟩⟩
          · rw [if_neg c5] at H
            exact absurd H (by simp)
        · rw [if_neg c4] at H
          have c4b0 : decide (x6_1 < 8) = false := decide_eq_false c4
          clear c4
          obtain rfl := Option.some.inj H
          go_wp2
          go_ret
          exact ⟨_, by first | rfl | (simp [errW_none, errW_some] <;> rfl) | (simp [*, errW_none, errW_some] <;> rfl) | (refine congrArg (fun z_ : Int => Ending.returned (.bool (z_ == _))) ?_; simp only [IntKind.wrap, IntKind.bits, IntKind.signed]; simp <;> omega), by (with_reducible repeat (first | apply Kd.R_alloc | apply Kd.R_drewN | apply Kd.R_drew)); exact HO_5.out, by repeat (first | (with_reducible first | exact HB.out | apply below_alloc | apply pw_below_drewN | apply below_drew1) | exact HB.out)⟩
      · rw [if_neg c3] at H
        have c3b0 : decide (x6_1 < a1) = false := decide_eq_false c3
        clear c3
        obtain rfl := Option.some.inj H
        go_wp2
        go_ret
        exact ⟨_, by first | rfl | (simp [errW_none, errW_some] <;> rfl) | (simp [*, errW_none, errW_some] <;> rfl) | (refine congrArg (fun z_ : Int => Ending.returned (.bool (z_ == _))) ?_; simp only [IntKind.wrap, IntKind.bits, IntKind.signed]; simp <;> omega), by (with_reducible repeat (first | apply Kd.R_alloc | apply Kd.R_drewN | apply Kd.R_drew)); exact HO_5.out, by repeat (first | (with_reducible first | exact HB.out | apply below_alloc | apply pw_below_drewN | apply below_drew1) | exact HB.out)⟩
end Go.Proofs.Ytliohoalackhiaa.T
