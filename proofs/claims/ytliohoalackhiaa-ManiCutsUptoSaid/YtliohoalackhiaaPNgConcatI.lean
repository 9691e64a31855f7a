/- slices.Grow of none, and slices.Concat of whole numbers: one row behind the other, in new memory: for every rows of fewer than 2^44 numbers in all, in whatever memory. -/
import Derived.WalkKit
import Derived.Lib.Hide
import Derived.OpenShut
import Derived.Deep.DeepMust
import Derived.WalkLawsBesides
import Derived.Test.YtliohoalackhiaaPNx0
namespace Go.Proofs.Ytliohoalackhiaa.N
open Go.RowKit Go.Proofs.YtliohoalackhiaaW.PrintWords Go.Proofs.YtliohoalackhiaaW.PrintLast Go.Proofs.YtliohoalackhiaaW.PrintMore
set_option linter.unusedVariables false
set_option linter.unusedSimpArgs false
set_option maxRecDepth 100000 in
set_option maxHeartbeats 2000000 in
theorem grow_nil (n : Int) (w : World) (h0 : 0 ≤ n) (h1 : n < 17592186044416) :
    Calls Try.prog 142 #[.slice none 0 0, .int .i64 n] w fun e w' => ∃ v, e = .returned v ∧ Kd.R (Kd.int .i64) 3 w' w.heap.size (fun _ => True) v [] ∧ Below w.heap.size w w' := by
  by_cases hn : n = 0
  · subst hn
    go_enter Try.func142, Try.ntmps142
    go_wp2
    go_ret
    exact ⟨_, rfl, Kd.R_nil _ _ _ _ _, Below.refl _ _⟩
  · have hn0 : decide (n < 0) = false := decide_eq_false (by omega)
    have hn1 : decide (0 < n) = true := decide_eq_true (by omega)
    have hw : IntKind.i64.wrap n = n := (i64_w _).trans (by unfold wrap64; omega)
    have HN := Aside0.mk (And.intro h0 h1)
    have HO := Aside0.mk (Kd.R_nil (Kd.int .i64) 3 w w.heap.size (fun _ => True))
    clear h0 h1 hn
    go_enter Try.func142, Try.ntmps142
    have h8 : ∀ (W : World) (A : Option Addr) (c : Nat) (xs : List Int), xs.length ≤ c → (Instr.slice 42 (.slice A xs.length c) none (some (.int .i64 0)) none).run Try.prog W = .ok (.slice A 0 c) W := fun W A c xs hc => by
      obtain ⟨i0, hi0, hz0, hz1, hz2⟩ := info_parts info3
      exact (print_take_int (P := Try.prog) (k := .i64) 42 3 Try.underlying42 hi0 hz1 A c xs 0 (by omega) (by omega) hc).1 W
    have H8 := Aside0.mk h8
    clear h8
    go_wp2_with (at_builtin; go_loud (refine Kd.R_append_zeros (Kd.int .i64) (w0 := w) w.heap.size rfl (.tmp 20) (.tmp 21) 42 3 3 (.int .i64 0) 8 rfl Try.underlying42 Try.underlying3 info3 rfl (by decide) (by omega) (.slice none 0 0) ([] : List Int) 0 n (fun _ => True) rfl rfl ?aZ (fun _ _ => trivial) HO.out HN.out.1 (Below.refl _ _) (Nat.le_refl _) ?aL ?_); (case aZ => go_must (exact rfl)); (case aL => go_must (have := HN.out; simp only [List.length_nil]; omega)); intro v1 w1 ho hb hg hat; obtain ⟨A1, c1, ev⟩ := Kd.R_slice ho; subst ev; have hs := fun W => H8.out W A1 c1 _ (Kd.R_reads' ho).2.1; have HO1 := Aside0.mk ho; have HB1 := Aside0.mk hb; clear ho hb hg hat)
    go_ret
    exact ⟨_, rfl, (by have := Kd.R_take HO1.out (m := 0) (Nat.zero_le _); rwa [List.take_zero] at this), HB1.out⟩
/-- a row among rows -/
theorem at_page {w : World} {A : Option Addr} {n : Nat} {xs : List (List Int)} (h : Kd.C (Kd.slice 3 (Kd.int .i64)) w A n xs) (i : Nat) (h1 : i < n) : ∃ ad A0 c0, A = some ad ∧ w.cell? (ad.add i) = some (.slice A0 (xs.getD i []).length c0) ∧ (xs.getD i []).length ≤ c0 ∧ (Kd.int .i64).C w A0 (xs.getD i []).length (xs.getD i []) := by
  obtain ⟨ad, c, e, _, hK, hc0⟩ := Kd.C_get h ([] : List Int) (i : Int) (by omega) (by omega)
  have hc : ∀ j u, c[j]? = some u → w.cell? (ad.add ((i : Int).toNat * 1 + j)) = some u := hc0
  rw [Int.toNat_natCast] at hK hc
  obtain ⟨A0, c0, rfl, l0, g0⟩ := hK
  exact ⟨ad, A0, c0, e, by have hq := hc 0 _ rfl; rwa [Nat.mul_one, Nat.add_zero] at hq, l0, g0⟩
theorem take_flat {a : List (List Int)} {i : Nat} (h : i < a.length) : (a.take (i + 1)).flatten = (a.take i).flatten ++ a.getD i [] := by
  rw [List.take_succ_eq_append_getElem h, List.flatten_append, List.getD_eq_getElem?_getD, List.getElem?_eq_getElem h]; simp
theorem flat_le (a : List (List Int)) (i : Nat) : (a.take i).flatten.length ≤ a.flatten.length := by
  conv => rhs; rw [← List.take_append_drop i a, List.flatten_append, List.length_append]
  omega
/-- What slices.Concat hands back. -/
def slices_Concat_int_int.f (l0 : List (List Int)) : Option (List Int) := if l0.flatten.length < 17592186044416 then some l0.flatten else none
set_option maxRecDepth 100000 in
set_option maxHeartbeats 4000000 in
theorem slices_Concat_int_int.calls (A0 : Option Addr) (c0 : Nat) (l0 : List (List Int)) (r : List Int) (w : World) (hr0 : Kd.C (Kd.slice 3 (Kd.int .i64)) w A0 l0.length l0) (hc0 : l0.length ≤ c0) (h : slices_Concat_int_int.f l0 = some r) :
    Calls Try.prog 106 #[.slice A0 l0.length c0] w fun e w' => ∃ v0_ : Value, e = .returned v0_ ∧ Kd.R (Kd.int .i64) 3 w' w.heap.size (fun _ => True) v0_ r ∧ Below w.heap.size w w' := by
  unfold slices_Concat_int_int.f at h
  by_cases hl : l0.flatten.length < 17592186044416
  · rw [if_pos hl] at h
    obtain rfl := Option.some.inj h
    clear h
    have hmx : (l0.length : Int) ≤ 9223372036854775807 := by have := Kd.C_max hr0; unfold maxLen at this; omega
    have HL := Aside0.mk hl
    have HR := Aside0.mk hr0
    have HMX := Aside0.mk hmx
    clear hl hr0
    go_enter Try.func106, Try.ntmps106
    go_wp2_with fail
    go_loopg [3, 11] l0.length (fun kq v3 v11 w' => ∃ i : Nat, v3 = .int .i64 (((l0.take i).flatten.length : Nat) : Int) ∧ v11 = .int .i64 (i : Int) ∧ Aside0 (i + kq = l0.length) ∧ w = w')
    case atStart => exact ⟨0, rfl, rfl, ⟨by omega⟩, rfl⟩
    case round =>
      obtain ⟨i, rfl, rfl, Hi, rfl⟩ := hrel
      have hi := Hi.out
      have hfl := flat_le l0 i
      obtain ⟨s, hs⟩ : ∃ s, (l0.take i).flatten.length = s := ⟨_, rfl⟩
      rw [hs] at hfl ⊢
      cases gk with
      | zero =>
        obtain rfl : i = l0.length := by omega
        rw [List.take_length] at hs
        have HS := Aside0.mk hs
        clear hs Hi hi hfl
        go_wp2_with fail
        refine (grow_nil (s : Int) w (by omega) (by have := HL.out; have := HS.out; omega)).mono ?_
        rintro e w1 ⟨v, rfl, hR, hB⟩
        obtain ⟨A1, c1, ev⟩ := Kd.R_slice hR
        subst ev
        have HR1 := Aside0.mk hR
        have HB1 := Aside0.mk hB
        clear hR hB HS
        go_wp2_with fail
        go_loopg [6, 27] l0.length (fun kq v6 v27 w' => ∃ (i : Nat) (A6 : Option Addr) (c6 : Nat), v6 = .slice A6 (l0.take i).flatten.length c6 ∧ v27 = .int .i64 (i : Int) ∧ Aside0 (i + kq = l0.length) ∧ Aside0 (Kd.R (Kd.int .i64) 3 w' w.heap.size (fun _ => True) (.slice A6 (l0.take i).flatten.length c6) (l0.take i).flatten) ∧ Aside0 (Below w.heap.size w w'))
        case atStart => exact ⟨0, A1, c1, rfl, rfl, ⟨by omega⟩, HR1, HB1⟩
        case round =>
          clear HR1 HB1
          obtain ⟨i, A6, c6, rfl, rfl, Hi, HO, HB⟩ := hrel
          have hi := Hi.out
          have hfl := flat_le l0 i
          cases gk with
          | zero =>
            obtain rfl : i = l0.length := by omega
            rw [List.take_length] at HO
            rw [List.take_length]
            clear Hi hi hfl
            go_wp2_with fail
            go_ret
            exact ⟨_, rfl, HO.out, HB.out⟩
          | succ kk =>
            have hil : i < l0.length := by omega
            have hlt : (i : Int) < (l0.length : Int) := by omega
            obtain ⟨ad, A2, c2, ead, hcx, hl1, hC1⟩ := at_page HR.out i hil
            obtain ⟨y, hy⟩ : ∃ y, l0.getD i [] = y := ⟨_, rfl⟩
            rw [hy] at hcx hl1 hC1
            have htf := take_flat hil
            have hfl2 := flat_le l0 (i + 1)
            obtain ⟨xs, hxs⟩ : ∃ xs, (l0.take i).flatten = xs := ⟨_, rfl⟩
            obtain ⟨ys, hys⟩ : ∃ ys, (l0.take (i + 1)).flatten = ys := ⟨_, rfl⟩
            rw [hxs] at HO htf hfl ⊢
            rw [hys, hy] at htf
            rw [hys] at hfl2
            have hw2 : IntKind.i64.wrap ((i : Int) + 1) = (i : Int) + 1 := (i64_w _).trans (by unfold wrap64; omega)
            have HYS := Aside0.mk (show xs ++ y = ys from htf.symm)
            have HYS_ := Aside0.mk hys
            have HXL := Aside0.mk (show xs.length + y.length < 17592186044416 by have := HL.out; have := congrArg List.length htf; rw [List.length_append] at this; omega)
            have HC1 := Aside0.mk hC1
            have HCX := Aside0.mk ((HB.out.cell (World.block_lt_of_cell? _ _ hcx)).trans hcx)
            have HLY := Aside0.mk hl1
            clear htf hfl hfl2 hxs hys hy hC1 hcx hl1
            subst ead
            have hcx := HCX.out
            go_wp2_with (at_builtin; go_loud (refine Kd.R_append_rows (Kd.int .i64) (w0 := w) w.heap.size rfl (.tmp 31) (.tmp 32) 42 3 (.int .i64 0) 8 rfl Try.underlying42 info3 rfl (by decide) (by omega) (.slice A6 xs.length c6) xs y _ _ _ (fun _ => True) (fun _ => False) rfl rfl ?aO ?aR (fun _ _ h => h) (fun _ h => h.elim) ?aF ?aB ?aS ?aL ?_); (case aR => go_must (exact Kd.C_below HC1.out HB.out)); (case aB => go_must (exact HB.out)); (case aF => exact (fun _ _ => trivial)); (case aS => go_must (exact HB.out.size)); (case aL => go_must (have := HXL.out; omega)); (case aO => go_must (exact HO.out)); intro v1 w7 ho hb hg hat; rw [HYS.out] at ho; obtain ⟨A7, c7, e7⟩ := Kd.R_slice ho; subst e7; have HO7 := Aside0.mk ho; have HB7 := Aside0.mk hb; clear ho hb hg hat)
            go_roundg kk
            case measure => omega
            case rel => exact ⟨i + 1, A7, c7, by rw [HYS_.out], by first | rfl | (simp; done) | go_num, ⟨by omega⟩, by rw [HYS_.out]; exact HO7, HB7⟩
      | succ kk =>
        have hil : i < l0.length := by omega
        have hlt : (i : Int) < (l0.length : Int) := by omega
        obtain ⟨ad, A1, c1, ead, hcx, hl1, hC1⟩ := at_page HR.out i hil
        obtain ⟨y, hy⟩ : ∃ y, l0.getD i [] = y := ⟨_, rfl⟩
        rw [hy] at hcx hl1 hC1
        have htf := take_flat hil
        have hfl2 := flat_le l0 (i + 1)
        have hss : (l0.take (i + 1)).flatten.length = s + y.length := by rw [htf, List.length_append, hs, hy]
        have hll := HL.out
        have hw1 : IntKind.i64.wrap ((s : Int) + (y.length : Int)) = (s : Int) + (y.length : Int) := (i64_w _).trans (by unfold wrap64; omega)
        have hw2 : IntKind.i64.wrap ((i : Int) + 1) = (i : Int) + 1 := (i64_w _).trans (by unfold wrap64; omega)
        have hn0 : decide ((s : Int) + (y.length : Int) < 0) = false := decide_eq_false (by omega)
        have HSS := Aside0.mk hss
        clear hss htf hfl2 hll hs hy hfl hl1 hC1
        subst ead
        go_wp2_with fail
        go_roundg kk
        case measure => omega
        case rel => exact ⟨i + 1, by rw [HSS.out]; first | rfl | (simp; done) | go_num, by first | rfl | (simp; done) | go_num, ⟨by omega⟩, rfl⟩
  · rw [if_neg hl] at h; cases h
end Go.Proofs.Ytliohoalackhiaa.N
