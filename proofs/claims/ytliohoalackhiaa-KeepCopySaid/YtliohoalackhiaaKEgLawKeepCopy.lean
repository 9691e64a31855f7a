/- The law KeepCopy returns true: a copy has the same, and knows nothing of what is done to the other one; what comes out, spoilt, changes nothing: for every bytes, place and choices, in whatever memory. Conditions: lengths as a memory has them. -/
import Derived.Test.YtliohoalackhiaaKEKeepK
import Derived.Test.YtliohoalackhiaaKEEBits
namespace Go.Proofs.Ytliohoalackhiaa.E
open Go.ChangeMaps hiding rd
open Go.RowKit Go.Maps Go.Proofs.YtliohoalackhiaaW.PrintWords Go.Proofs.YtliohoalackhiaaW.PrintLast Go.Proofs.YtliohoalackhiaaW.PrintMore Go.Proofs.Ytliohoalackhiaa.Num
set_option linter.unusedVariables false
set_option linter.unusedSimpArgs false
/-- chunks that were put, the newest first -/
def histC (a : List Int) : Nat → Hist
  | 0 => []
  | k + 1 => ((k : Int), [rd a (k : Int), 1]) :: histC a k
theorem histC_len (a : List Int) : ∀ k, (histC a k).length = k
  | 0 => rfl
  | k + 1 => by rw [histC, List.length_cons, histC_len a k]
theorem getA_C (a : List Int) (i : Nat) : ∀ n, getA (histC a n) (i : Int) = if i < n then some [rd a (i : Int), 1] else none
  | 0 => by rw [if_neg (by omega)]; rfl
  | n + 1 => by
    have ih := getA_C a i n
    unfold getA at ih ⊢
    rw [histC, List.find?_cons]
    by_cases e : i = n
    · subst e
      rw [if_pos (by omega)]
      simp
    · rw [show (((n : Int), [rd a (n : Int), 1]).1 == (i : Int)) = false from beq_eq_false_iff_ne.mpr (by simp only; omega)]
      rw [ih]
      by_cases hi : i < n
      · rw [if_pos hi, if_pos (by omega)]
      · rw [if_neg hi, if_neg (by omega)]
/-- a store beside another one that is written -/
theorem sto_beside {w w' : World} {b bc g m1 m2 gc c1 c2 : Nat} {lo loc : Value} {A1 A2 C1 C2 : Hist × List Int} {ss sc : List Step} (hc : Sto w bc gc c1 c2 loc C1 C2 sc) (hs : Sto w b g m1 m2 lo A1 A2 ss) (mv : Mv w w' (Own g m1 m2 lo)) (hd : ∀ k, Own g m1 m2 lo k → ¬ Own gc c1 c2 loc k) : Sto w' bc gc c1 c2 loc C1 C2 sc :=
  hc.step (mv.soft hs) (fun k hk => mv.k.2 k (hc.lt hk) (fun q => hd k q hk))
theorem own_apart {w : World} {bc g m1 m2 m1' m2' gc c1 c2 : Nat} {lo lo' loc : Value} {C1 C2 : Hist × List Int} {sc : List Step} (hc : Sto w bc gc c1 c2 loc C1 C2 sc) (hd : ∀ k, Own g m1 m2 lo k → ¬ Own gc c1 c2 loc k) (hO : ∀ k, Own g m1' m2' lo' k → Own g m1 m2 lo k ∨ w.heap.size ≤ k) : ∀ k, Own g m1' m2' lo' k → ¬ Own gc c1 c2 loc k :=
  fun k q hk => (hO k q).elim (fun q => hd k q hk) (fun q => by have := hc.lt hk; omega)
set_option maxRecDepth 100000 in
set_option maxHeartbeats 8000000 in
theorem copy_walk (w : World) (Aa : Option Addr) (ca : Nat) (a : List Int) (i : Int) (Ak : Option Addr) (nk ck : Nat)
    (hra : Kd.C (Kd.int .u8) w Aa a.length a) (hca : a.length ≤ ca) (ha : Bytes a) (hi : 0 ≤ i ∧ i ≤ 255) (hl : a.length ≤ 60) :
    Calls Try.prog 5 #[.slice Aa a.length ca, .int .u8 i, .slice Ak nk ck] w fun e w' => e = .returned (.bool true) ∧ Below w.heap.size w w' := by
  have kc := fun (w : World) (C : Array Value) (n c : Nat) => Lib.run_convert_bytes_const (P := Try.prog) w 22 5 C n c Try.underlying22 Try.underlying5
  have HRA := Aside0.mk hra
  have HA := Aside0.mk ha
  have hwi : wrap64 i = i := IntWalk.wrap64_in _ (by omega)
  have hl' : ¬ (a.length : Int) > 60 := by omega
  clear hra ha
  go_enter Try.func5, Try.ntmps5
  go_wp2_with fail
  refine (keep_new w).mono ?_
  rintro e w1 ⟨g, m1, m2, rfl, hS, hb_⟩
  have HS := Aside0.mk hS
  have HB := Aside0.mk hb_
  clear hS hb_
  go_wp2_with fail
  go_loopw [8] (fun i wr => ∃ (k m1' m2' : Nat) (lo' : Value) (H1 : Hist) (ss : List Step), k ≤ a.length ∧ ss.length ≤ k ∧ i = .int .i64 k ∧ Aside0 (Sto wr w.heap.size g m1' m2' lo' (H1, []) (histC a k, []) ss) ∧ Aside0 (Below w.heap.size w wr))
    (fun i _ => a.length - (intOf i).toNat)
  case atStart => exact ⟨0, m1, m2, .slice none 0 0, [], [], Nat.zero_le _, Nat.zero_le _, rfl, HS, HB⟩
  case round =>
    clear HS HB
    obtain ⟨k, m1r, m2r, lor, H1, ss, hkl, hsl, rfl, HS, HB⟩ := hrel
    by_cases hlt : k < a.length
    · have hlt' : (k : Int) < (a.length : Int) := by omega
      obtain ⟨ad, rfl, hx⟩ := Kd.at_int (Kd.C_below HRA.out HB.out) (k : Int) (by omega) hlt'
      rw [Int.toNat_natCast] at hx
      have hxb : 0 ≤ rd a (k : Int) ∧ rd a (k : Int) ≤ 255 := by
        unfold rd
        rw [Int.toNat_natCast, List.getD_eq_getElem?_getD, List.getElem?_eq_getElem hlt]
        exact HA.out _ (List.getElem_mem hlt)
      have hhis : histC a (k + 1) = ((k : Int), [rd a (k : Int), 1]) :: histC a k := rfl
      generalize rd a (k : Int) = x at hx hxb hhis
      have HHIS := Aside0.mk hhis
      clear hhis
      have hb0 := below_alloc (Below.refl wr.heap.size wr) (.cells #[.int .u8 x, .int .u8 1] 5)
      have hc0 : Kd.C (Kd.int .u8) (wr.alloc (.cells #[.int .u8 x, .int .u8 1] 5)) (some ⟨wr.heap.size, 0, none⟩) 2 [x, 1] := C_lit (k := .u8) [x, 1] (blk_new wr (.cells #[.int .u8 x, .int .u8 1] 5)) rfl (by simp)
      have HSx := Aside0.mk (HS.out.below hb0)
      have HBx := Aside0.mk (below_step HB.out hb0)
      have HX := Aside0.mk hx
      have HP := Aside0.mk (keep_put (wr.alloc (.cells #[.int .u8 x, .int .u8 1] 5)) w.heap.size g _ _ _ _ _ _ HSx.out HBx.out.size (by rw [histC_len]; omega) (by omega) (k : Int) _ 2 [x, 1] hc0 (by simp) (by omega) (by simp))
      clear HS HB hb0 hc0
      go_wp2_with fail
      refine HP.out.mono ?_
      rintro e w3 ⟨rfl, m4, lo4, hS, hV, _⟩
      have hbV := (hV.lift HSx.out HBx.out HBx.out.size).1
      obtain ⟨ad', eA, hx3⟩ := Kd.at_int (Kd.C_below HRA.out hbV) (k : Int) (by omega) hlt'
      cases eA
      have hx3 : w3.cell? (ad.add k) = some (.int .u8 x) := by
        have h1 := hx3
        have h2 := Kd.at_int (Kd.C_below HRA.out (Below.refl _ _)) (k : Int) (by omega) hlt'
        obtain ⟨ad2, e2, h2⟩ := h2
        cases e2
        rw [Int.toNat_natCast] at h1 h2
        have h3 := HX.out
        have hbb := HBx.out
        rw [h1]
        have h4 := (hbb.cell (World.block_lt_of_cell? _ _ h2)).trans h2
        have h5 := ((below_alloc (Below.refl wr.heap.size wr) (.cells #[.int .u8 x, .int .u8 1] 5)).cell (World.block_lt_of_cell? _ _ h3)).trans h3
        rw [h4] at h5
        exact h5
      have HS := Aside0.mk (show Sto w3 w.heap.size g _ _ _ (H1, []) (histC a (k + 1), []) (ss ++ [.put (k : Int) [x, 1]]) from by rw [HHIS.out]; exact hS)
      have HB := Aside0.mk hbV
      clear hS hV hbV HP HSx HBx HX
      have hrem : IntKind.u8.wrap (x.tmod 16) = x % 16 := by rw [Int.tmod_eq_emod_of_nonneg hxb.1]; show (x % 16) % 256 = x % 16; omega
      by_cases h16 : x % 16 = 0
      · go_wp2_with fail
        refine (keep_flush w3 w.heap.size g _ _ _ _ _ _ HS.out HB.out.size).mono ?_
        rintro e w4 ⟨⟨rv, rfl⟩, m1f, hS, hV, _⟩
        have HSn := Aside0.mk hS
        have HBn := Aside0.mk (hV.lift HS.out HB.out HB.out.size).1
        clear hS hV HS HB
        go_wp2_with fail
        go_roundw
        case measure => simp [intOf]; omega
        case rel => exact ⟨k + 1, m1f, m4, .slice none 0 0, histC a (k + 1), [], by omega, by simp, by go_num, HSn, HBn⟩
      · go_wp2_with fail
        go_roundw
        case measure => simp [intOf]; omega
        case rel => exact ⟨k + 1, m1r, m4, lo4, H1, ss ++ [.put (k : Int) [x, 1]], by omega, by rw [List.length_append, List.length_singleton]; omega, by go_num, HS, HB⟩
    · have hlt' : ¬ (k : Int) < (a.length : Int) := by omega
      obtain rfl : k = a.length := by omega
      go_wp2_with fail
      refine (keep_copy wr w.heap.size g _ _ _ _ _ _ HS.out (by omega)).mono ?_
      rintro e w4 ⟨gc, c1, c2, loc, rfl, hC, hb_⟩
      have HD : Aside0 (∀ k, Own g m1r m2r lor k → ¬ Own gc c1 c2 loc k) := ⟨fun k q hk => by have h1 := HS.out.lt q; have h2 := hC.base hk; omega⟩
      have HS4 := Aside0.mk (HS.out.below hb_)
      have HC4 := Aside0.mk hC
      have HB4 := Aside0.mk (below_step HB.out hb_)
      clear hC hb_ HS HB
      go_wp2_with fail
      refine (keep_held w4 w.heap.size g _ _ _ _ _ _ HS4.out).mono ?_
      rintro e w5 ⟨v5, lh, rfl, hR5, hl5, hby5, hbits5, hb_⟩
      obtain ⟨A5, c5, e5⟩ := Kd.R_slice hR5
      subst e5
      have hstr5 := own_string (P := Try.prog) Try.underlying22 Try.underlying5 Try.underlying9 (Kd.own_of_R hR5)
      have HS5 := Aside0.mk (HS4.out.below hb_)
      have HC5 := Aside0.mk (HC4.out.below hb_)
      have HB5 := Aside0.mk (below_step HB4.out hb_)
      have HLH := Aside0.mk (And.intro hl5 (And.intro hby5 hbits5))
      clear hR5 hl5 hby5 hbits5 hb_ HS4 HC4 HB4
      have hgi : getA (histC a a.length) i = if i.toNat < a.length then some [rd a i, 1] else none := by
        have := getA_C a i.toNat a.length
        rwa [Int.toNat_of_nonneg hi.1] at this
      obtain ⟨ob, hob⟩ : ∃ ob, getA (histC a a.length) i = ob := ⟨_, rfl⟩
      have hol : (ob.getD []).length ≤ 2 := by rw [← hob, hgi]; split <;> simp
      have HOB := Aside0.mk (hob.symm.trans hgi)
      have HG := Aside0.mk hob
      have HK5 := Aside0.mk (keep_get w5 w.heap.size g _ _ _ _ _ _ HS5.out i (wf_i64 (by omega)) (by rw [hob]; omega))
      clear hgi hob
      go_wp2_with fail
      refine HK5.out.mono ?_
      rintro e w6 ⟨v6, hv_, hR6, hb_⟩
      rw [HG.out] at hv_ hR6
      obtain rfl := hv_
      obtain ⟨A6, c6, e6⟩ := Kd.R_slice hR6
      generalize hn6 : List.length _ = n6 at e6
      subst e6
      have HR6 := Aside0.mk hR6
      have HB6 := Aside0.mk hb_
      clear hR6 hb_ HK5 hstr5
      go_wp2_with fail
      go_loopw [13] (fun q wr => ∃ (k : Nat) (ys : List Int), k ≤ n6 ∧ ys.length = n6 ∧ q = .int .i64 k ∧ Aside0 (Kd.R (Kd.int .u8) 5 wr w5.heap.size (fun _ => True) (.slice A6 n6 c6) ys) ∧ Aside0 (Below w5.heap.size w5 wr))
        (fun q _ => n6 - (intOf q).toNat)
      case atStart => exact ⟨0, _, Nat.zero_le _, hn6, rfl, HR6, HB6⟩
      case round =>
        clear HR6 HB6
        obtain ⟨k, ys, hkl, hyl, rfl, HO, HB⟩ := hrel
        by_cases hlt : k < n6
        · have hlt' : (k : Int) < (n6 : Int) := by omega
          have p19 : 0 ≤ (k : Int) := by omega
          have q19 : (k : Int) < (ys.length : Int) := by omega
          obtain ⟨go19, co19, eo19, gb19, gl19, cl19, HG19⟩ := Kd.R_form HO.out (by omega)
          cases eo19
          obtain ⟨ad351, e351, hx351⟩ := Kd.at_int (Kd.R_reads' HO.out).2.2 (k : Int) p19 q19
          cases e351
          simp only [add_plain] at hx351
          obtain ⟨hx19, hf19⟩ := Kd.R_celln 0 HO.out (k : Int) p19 q19
          have HP := Aside0.mk (Kd.R_putg HO.out (k : Int) (((rd ys (k : Int)) + 1) % 256))
          rw [Int.toNat_natCast] at hx351 hx19 hf19
          go_wp2_with fail
          go_roundw
          case measure => simp [intOf]; omega
          case rel =>
            have h1 := HP.out.1
            rw [Int.toNat_natCast] at h1
            exact ⟨k + 1, ys.set k (((rd ys (k : Int)) + 1) % 256), by omega, by rw [List.length_set], by go_num, ⟨h1⟩, ⟨below_set HB.out gb19⟩⟩
        · have hlt' : ¬ (k : Int) < (n6 : Int) := by omega
          have HS6 := Aside0.mk (HS5.out.below HB.out)
          have HC6 := Aside0.mk (HC5.out.below HB.out)
          have HB6 := Aside0.mk (below_step HB5.out HB.out)
          clear HO HB HS5 HC5 HB5
          have hb0 := below_alloc (Below.refl wr.heap.size wr) (.cells #[.int .u8 120] 5 (1, 2))
          have hc0 := C_lit (k := .u8) [120] (blk_newf wr #[.int .u8 120] 5 (1, 2)) rfl (by simp)
          have HSx := Aside0.mk (HS6.out.below hb0)
          have HCx := Aside0.mk (HC6.out.below hb0)
          have HBx := Aside0.mk (below_step HB6.out hb0)
          have HP := Aside0.mk (keep_put (wr.alloc (.cells #[.int .u8 120] 5 (1, 2))) w.heap.size g _ _ _ _ _ _ HSx.out HBx.out.size (by rw [histC_len]; omega) (by omega) i _ 1 [120] hc0 (by simp) (by omega) (by simp))
          clear hb0 hc0 HS6 HC6 HB6
          go_wp2_with fail
          refine HP.out.mono ?_
          rintro e w7 ⟨rfl, m27, lo7, hS, hV, hO⟩
          have HS7 := Aside0.mk hS
          have HC7 := Aside0.mk (sto_beside HCx.out HSx.out hV HD.out)
          have HD7 := Aside0.mk (own_apart HCx.out HD.out hO)
          have HB7 := Aside0.mk (hV.lift HSx.out HBx.out HBx.out.size).1
          clear hS hV hO HSx HCx HBx HD HP
          go_wp2_with fail
          refine (keep_clear w7 w.heap.size g _ _ _ _ _ _ HS7.out HB7.out.size (by rw [List.length_cons, histC_len]; omega) (by rw [List.length_append, List.length_singleton]; omega)).mono ?_
          rintro e w8 ⟨⟨rv8, rfl⟩, m28, lo8, hS, hV, hO⟩
          have HS8 := Aside0.mk hS
          have HC8 := Aside0.mk (sto_beside HC7.out HS7.out hV HD7.out)
          have HD8 := Aside0.mk (own_apart HC7.out HD7.out hO)
          have HB8 := Aside0.mk (hV.lift HS7.out HB7.out HB7.out.size).1
          clear hS hV hO HS7 HC7 HD7 HB7
          go_wp2_with fail
          refine (keep_flush w8 w.heap.size g _ _ _ _ _ _ HS8.out HB8.out.size).mono ?_
          rintro e w9 ⟨⟨rv9, rfl⟩, m19, hS, hV, hO⟩
          have HS9 := Aside0.mk hS
          have HC9 := Aside0.mk (sto_beside HC8.out HS8.out hV HD8.out)
          have HB9 := Aside0.mk (hV.lift HS8.out HB8.out HB8.out.size).1
          clear hS hV hO HS8 HC8 HD8 HB8
          have HK9 := Aside0.mk (keep_get w9 _ gc _ _ _ _ _ _ HC9.out i (wf_i64 (by omega)) (by rw [HG.out]; omega))
          go_wp2_with fail
          refine HK9.out.mono ?_
          rintro e wq ⟨vd, hv_, hRd, hb_⟩
          rw [HG.out] at hv_ hRd
          obtain rfl := hv_
          have HSq := Aside0.mk (HS9.out.below hb_)
          have HCq := Aside0.mk (HC9.out.below hb_)
          have HBq := Aside0.mk (below_step HB9.out hb_)
          clear hb_ HS9 HC9 HB9 HK9
          by_cases hin : i.toNat < a.length
          · have hob : ob = some [rd a i, 1] := by rw [HOB.out, if_pos hin]
            subst hob
            have hRd : Kd.R (Kd.int .u8) 5 wq w9.heap.size (fun _ => True) vd [rd a i, 1] := hRd
            have hin' : i < (a.length : Int) := by omega
            obtain ⟨ada, rfl, hda⟩ := Kd.at_int (Kd.C_below HRA.out HBq.out) i hi.1 hin'
            generalize rd a i = x at hRd hda
            obtain ⟨Ad, cd, ed⟩ := Kd.R_slice hRd
            subst ed
            obtain ⟨ad1, e1, hd0⟩ := Kd.at_int (Kd.R_reads' hRd).2.2 0 (by omega) (by simp)
            obtain ⟨ad2, e2, hd1⟩ := Kd.at_int (Kd.R_reads' hRd).2.2 1 (by omega) (by simp)
            subst e1
            cases e2
            obtain ⟨gd, cd', eo, _, _, _, _⟩ := Kd.R_form hRd (by simp)
            cases eo
            simp only [add_plain] at hd0 hd1
            have hd0 : wq.cell? ⟨gd, 0, none⟩ = some (.int .u8 x) := hd0
            have hd1 : wq.cell? ⟨gd, 1, none⟩ = some (.int .u8 1) := hd1
            go_wp2_with fail
            refine start_ (n := 40) (S := fun w' => w'.cell? ⟨gd, 0, none⟩ = some (.int .u8 x) ∧ w'.cell? ⟨gd, 1, none⟩ = some (.int .u8 1) ∧ w'.cell? (ada.add i.toNat) = some (.int .u8 x)) (ds := []) #[false, false, false, false, false, false, false, false, false, false, false, false, false, false, false, false, false, false, false, false, false, false, false, false, false, false, false, false, false, false, false, false, false, false, false, false, false, false, false, false] (by kernel_rfl) rfl rfl ⟨hd0, hd1, hda⟩ (fun hHeld => ?_)
            refine one_ (i := 0) (N := some 84) #[true, false, false, false, false, false, false, false, false, false, false, false, false, false, false, false, false, false, false, false, false, false, false, false, false, false, false, false, false, false, false, false, false, false, false, false, false, false, false, false] rfl rfl (by kernel_rfl) (by decide) (fun K hK => ?_)
            refine goes_ Try.func14 (by kernel_rfl) rfl #[] (by rfl) rfl rfl (by first | (simp only [List.map_toArray, List.map_cons, List.map_nil]; done) | (simp only [List.map_toArray, List.map_cons, List.map_nil]; rfl)) ?_
            with_reducible refine (keep_known _).mono ?_
            rintro e W1 ⟨rfl, hb⟩
            refine ⟨_, rfl, ?_⟩
            have HB1 := Aside0.mk (below_step (below_drew1 (Below.refl wq.heap.size wq)) hb)
            clear hb
            refine hK.out _ _ ⟨((HB1.out.cell (World.block_lt_of_cell? _ _ hd0)).trans hd0), ((HB1.out.cell (World.block_lt_of_cell? _ _ hd1)).trans hd1), ((HB1.out.cell (World.block_lt_of_cell? _ _ hda)).trans hda)⟩ (fun hHeld => ?_)
            clear hK K
            refine norm_ (a' := ?_) ?_ ?_
            rotate_left
            · show Act.put _ (some 84) _ = _
              simp only [Act.put, List.setIfInBounds_toArray, List.set_cons_zero, List.set_cons_succ, i64_w, i32_w]
              rfl
            refine pure_ (i := 1) (N := some 85) (v := ?_) (a' := ?_) #[true, true, false, false, false, false, false, false, false, false, false, false, false, false, false, false, false, false, false, false, false, false, false, false, false, false, false, false, false, false, false, false, false, false, false, false, false, false, false, false] rfl rfl (by kernel_rfl) (fun _ _ _ h => h) (Or.inl ⟨by rfl, ?_⟩) ?_ ?_
            rotate_left
            · intro w'
              go_simp
              with_reducible rfl
            rotate_left
            · simp only [Act.put, List.setIfInBounds_toArray, List.set_cons_zero, List.set_cons_succ, i64_w, i32_w]
              rfl
            refine pure_ (i := 2) (N := some 86) (v := ?_) (a' := ?_) #[true, true, true, false, false, false, false, false, false, false, false, false, false, false, false, false, false, false, false, false, false, false, false, false, false, false, false, false, false, false, false, false, false, false, false, false, false, false, false, false] rfl rfl (by kernel_rfl) (fun _ _ _ h => h) (Or.inl ⟨by rfl, ?_⟩) ?_ ?_
            rotate_left
            · intro w'
              go_simp
              with_reducible rfl
            rotate_left
            · simp only [Act.put, List.setIfInBounds_toArray, List.set_cons_zero, List.set_cons_succ, i64_w, i32_w]
              rfl
            refine pure_ (i := 3) (N := some 87) (v := ?_) (a' := ?_) #[true, true, true, true, false, false, false, false, false, false, false, false, false, false, false, false, false, false, false, false, false, false, false, false, false, false, false, false, false, false, false, false, false, false, false, false, false, false, false, false] rfl rfl (by kernel_rfl) (fun _ _ _ h => h) (Or.inl ⟨by rfl, ?_⟩) ?_ ?_
            rotate_left
            · intro w'
              go_simp
              with_reducible rfl
            rotate_left
            · simp only [Act.put, List.setIfInBounds_toArray, List.set_cons_zero, List.set_cons_succ, i64_w, i32_w]
              rfl
            refine one_ (i := 4) (N := some 88) #[true, true, true, true, true, false, false, false, false, false, false, false, false, false, false, false, false, false, false, false, false, false, false, false, false, false, false, false, false, false, false, false, false, false, false, false, false, false, false, false] rfl rfl (by kernel_rfl) (by decide) (fun K hK => ?_)
            refine goes_ Try.func18 (by kernel_rfl) rfl #[.pointer (some ⟨gc, 0, none⟩)] (by rfl) rfl rfl (by first | (simp only [List.map_toArray, List.map_cons, List.map_nil]; done) | (simp only [List.map_toArray, List.map_cons, List.map_nil]; rfl)) ?_
            with_reducible refine (keep_held W1 _ gc _ _ _ _ _ _ (HCq.out.below HB1.out)).mono ?_
            rintro e W2 ⟨v2, l2, rfl, hR2, hl2, hby2, hbits2, hb⟩
            refine ⟨_, rfl, ?_⟩
            obtain ⟨A2_, c2_, e2_⟩ := Kd.R_slice hR2
            subst e2_
            obtain rfl : l2 = lh := B_ext hby2 HLH.out.2.1 (hl2.trans HLH.out.1.symm) (fun j hj => (hbits2 j (by omega)).trans (HLH.out.2.2 j (by omega)).symm)
            have hstr2 := own_string (P := Try.prog) Try.underlying22 Try.underlying5 Try.underlying9 (Kd.own_of_R hR2)
            have HB2 := Aside0.mk (below_step HB1.out hb)
            clear hb hR2 hl2 hby2 hbits2
            refine hK.out _ _ ⟨((HB2.out.cell (World.block_lt_of_cell? _ _ hd0)).trans hd0), ((HB2.out.cell (World.block_lt_of_cell? _ _ hd1)).trans hd1), ((HB2.out.cell (World.block_lt_of_cell? _ _ hda)).trans hda)⟩ (fun hHeld => ?_)
            clear hK K
            refine norm_ (a' := ?_) ?_ ?_
            rotate_left
            · show Act.put _ (some 88) _ = _
              simp only [Act.put, List.setIfInBounds_toArray, List.set_cons_zero, List.set_cons_succ, i64_w, i32_w]
              rfl
            refine one_ (i := 5) (N := some 89) #[true, true, true, true, true, true, false, false, false, false, false, false, false, false, false, false, false, false, false, false, false, false, false, false, false, false, false, false, false, false, false, false, false, false, false, false, false, false, false, false] rfl rfl (by kernel_rfl) (by decide) (fun K hK => ?_)
            refine value_ (w1 := ?_) (v := ?_) (by rfl) rfl ?_ ?_
            rotate_left 2
            · go_simp
              constructor
              · rfl
              · rfl
            refine hK.out _ _ ⟨((HB2.out.cell (World.block_lt_of_cell? _ _ hd0)).trans hd0), ((HB2.out.cell (World.block_lt_of_cell? _ _ hd1)).trans hd1), ((HB2.out.cell (World.block_lt_of_cell? _ _ hda)).trans hda)⟩ (fun hHeld => ?_)
            clear hK K
            refine norm_ (a' := ?_) ?_ ?_
            rotate_left
            · show Act.put _ (some 89) _ = _
              simp only [Act.put, List.setIfInBounds_toArray, List.set_cons_zero, List.set_cons_succ, i64_w, i32_w]
              rfl
            refine pure_ (i := 6) (N := some 90) (v := ?_) (a' := ?_) #[true, true, true, true, true, true, true, false, false, false, false, false, false, false, false, false, false, false, false, false, false, false, false, false, false, false, false, false, false, false, false, false, false, false, false, false, false, false, false, false] rfl rfl (by kernel_rfl) (fun _ _ _ h => h) (Or.inl ⟨by rfl, ?_⟩) ?_ ?_
            rotate_left
            · intro w'
              go_simp
              with_reducible rfl
            rotate_left
            · simp only [Act.put, List.setIfInBounds_toArray, List.set_cons_zero, List.set_cons_succ, i64_w, i32_w]
              rfl
            refine pure_ (i := 7) (N := some 91) (v := ?_) (a' := ?_) #[true, true, true, true, true, true, true, true, false, false, false, false, false, false, false, false, false, false, false, false, false, false, false, false, false, false, false, false, false, false, false, false, false, false, false, false, false, false, false, false] rfl rfl (by kernel_rfl) (fun _ _ _ h => h) (Or.inl ⟨by rfl, ?_⟩) ?_ ?_
            rotate_left
            · intro w'
              go_simp
              with_reducible rfl
            rotate_left
            · simp only [Act.put, List.setIfInBounds_toArray, List.set_cons_zero, List.set_cons_succ, i64_w, i32_w]
              rfl
            refine pure_ (i := 8) (N := some 92) (v := ?_) (a' := ?_) #[true, true, true, true, true, true, true, true, true, false, false, false, false, false, false, false, false, false, false, false, false, false, false, false, false, false, false, false, false, false, false, false, false, false, false, false, false, false, false, false] rfl rfl (by kernel_rfl) (fun _ _ _ h => h) (Or.inl ⟨by rfl, ?_⟩) ?_ ?_
            rotate_left
            · intro w'
              go_simp
              with_reducible rfl
            rotate_left
            · simp only [Act.put, List.setIfInBounds_toArray, List.set_cons_zero, List.set_cons_succ, i64_w, i32_w]
              rfl
            refine pure_ (i := 9) (N := some 93) (v := ?_) (a' := ?_) #[true, true, true, true, true, true, true, true, true, true, false, false, false, false, false, false, false, false, false, false, false, false, false, false, false, false, false, false, false, false, false, false, false, false, false, false, false, false, false, false] rfl rfl (by kernel_rfl) (fun _ _ _ h => h) (Or.inl ⟨by rfl, ?_⟩) ?_ ?_
            rotate_left
            · intro w'
              go_simp
              with_reducible rfl
            rotate_left
            · simp only [Act.put, List.setIfInBounds_toArray, List.set_cons_zero, List.set_cons_succ, i64_w, i32_w]
              rfl
            refine pure_ (i := 10) (N := some 94) (v := ?_) (a' := ?_) #[true, true, true, true, true, true, true, true, true, true, true, false, false, false, false, false, false, false, false, false, false, false, false, false, false, false, false, false, false, false, false, false, false, false, false, false, false, false, false, false] rfl rfl (by kernel_rfl) (fun _ _ _ h => h) (Or.inl ⟨by rfl, ?_⟩) ?_ ?_
            rotate_left
            · intro w'
              go_simp
              with_reducible rfl
            rotate_left
            · simp only [Act.put, List.setIfInBounds_toArray, List.set_cons_zero, List.set_cons_succ, i64_w, i32_w]
              rfl
            refine pure_ (i := 11) (N := some 95) (v := ?_) (a' := ?_) #[true, true, true, true, true, true, true, true, true, true, true, true, false, false, false, false, false, false, false, false, false, false, false, false, false, false, false, false, false, false, false, false, false, false, false, false, false, false, false, false] rfl rfl (by kernel_rfl) (fun _ _ _ h => h) (Or.inl ⟨by rfl, ?_⟩) ?_ ?_
            rotate_left
            · intro w'
              go_simp
              with_reducible rfl
            rotate_left
            · simp only [Act.put, List.setIfInBounds_toArray, List.set_cons_zero, List.set_cons_succ, i64_w, i32_w]
              rfl
            refine pure_ (i := 12) (N := some 96) (v := ?_) (a' := ?_) #[true, true, true, true, true, true, true, true, true, true, true, true, true, false, false, false, false, false, false, false, false, false, false, false, false, false, false, false, false, false, false, false, false, false, false, false, false, false, false, false] rfl rfl (by kernel_rfl) (fun _ _ _ h => h) (Or.inl ⟨by rfl, ?_⟩) ?_ ?_
            rotate_left
            · intro w'
              go_simp
              with_reducible rfl
            rotate_left
            · simp only [Act.put, List.setIfInBounds_toArray, List.set_cons_zero, List.set_cons_succ, i64_w, i32_w]
              rfl
            refine pure_ (i := 13) (N := some 97) (v := ?_) (a' := ?_) #[true, true, true, true, true, true, true, true, true, true, true, true, true, true, false, false, false, false, false, false, false, false, false, false, false, false, false, false, false, false, false, false, false, false, false, false, false, false, false, false] rfl rfl (by kernel_rfl) (fun _ _ _ h => h) (Or.inl ⟨by rfl, ?_⟩) ?_ ?_
            rotate_left
            · intro w'
              go_simp
              with_reducible rfl
            rotate_left
            · simp only [Act.put, List.setIfInBounds_toArray, List.set_cons_zero, List.set_cons_succ, i64_w, i32_w]
              rfl
            refine pure_ (i := 14) (N := some 98) (v := ?_) (a' := ?_) #[true, true, true, true, true, true, true, true, true, true, true, true, true, true, true, false, false, false, false, false, false, false, false, false, false, false, false, false, false, false, false, false, false, false, false, false, false, false, false, false] rfl rfl (by kernel_rfl) (fun _ _ _ h => h) (Or.inl ⟨by rfl, ?_⟩) ?_ ?_
            rotate_left
            · intro w'
              go_simp
              with_reducible rfl
            rotate_left
            · simp only [Act.put, List.setIfInBounds_toArray, List.set_cons_zero, List.set_cons_succ, i64_w, i32_w]
              rfl
            refine pure_ (i := 15) (N := some 99) (v := ?_) (a' := ?_) #[true, true, true, true, true, true, true, true, true, true, true, true, true, true, true, true, false, false, false, false, false, false, false, false, false, false, false, false, false, false, false, false, false, false, false, false, false, false, false, false] rfl rfl (by kernel_rfl) (fun _ _ _ h => h) (Or.inl ⟨by rfl, ?_⟩) ?_ ?_
            rotate_left
            · intro w'
              go_simp
              with_reducible rfl
            rotate_left
            · simp only [Act.put, List.setIfInBounds_toArray, List.set_cons_zero, List.set_cons_succ, i64_w, i32_w]
              rfl
            refine pure_ (i := 16) (N := some 100) (v := ?_) (a' := ?_) #[true, true, true, true, true, true, true, true, true, true, true, true, true, true, true, true, true, false, false, false, false, false, false, false, false, false, false, false, false, false, false, false, false, false, false, false, false, false, false, false] rfl rfl (by kernel_rfl) (fun _ _ _ h => h) (Or.inl ⟨by rfl, ?_⟩) ?_ ?_
            rotate_left
            · intro w'
              go_simp
              with_reducible rfl
            rotate_left
            · simp only [Act.put, List.setIfInBounds_toArray, List.set_cons_zero, List.set_cons_succ, i64_w, i32_w]
              rfl
            refine pure_ (i := 17) (N := some 101) (v := ?_) (a' := ?_) #[true, true, true, true, true, true, true, true, true, true, true, true, true, true, true, true, true, true, false, false, false, false, false, false, false, false, false, false, false, false, false, false, false, false, false, false, false, false, false, false] rfl rfl (by kernel_rfl) (fun _ _ _ h => h) (Or.inl ⟨by rfl, ?_⟩) ?_ ?_
            rotate_left
            · intro w'
              go_simp
              with_reducible rfl
            rotate_left
            · simp only [Act.put, List.setIfInBounds_toArray, List.set_cons_zero, List.set_cons_succ, i64_w, i32_w]
              rfl
            refine pure_ (i := 18) (N := some 102) (v := ?_) (a' := ?_) #[true, true, true, true, true, true, true, true, true, true, true, true, true, true, true, true, true, true, true, false, false, false, false, false, false, false, false, false, false, false, false, false, false, false, false, false, false, false, false, false] rfl rfl (by kernel_rfl) (fun _ _ _ h => h) (Or.inl ⟨by rfl, ?_⟩) ?_ ?_
            rotate_left
            · intro w'
              go_simp
              with_reducible rfl
            rotate_left
            · simp only [Act.put, List.setIfInBounds_toArray, List.set_cons_zero, List.set_cons_succ, i64_w, i32_w]
              rfl
            refine pure_ (i := 20) (N := some 104) (v := ?_) (a' := ?_) #[true, true, true, true, true, true, true, true, true, true, true, true, true, true, true, true, true, true, true, false, true, false, false, false, false, false, false, false, false, false, false, false, false, false, false, false, false, false, false, false] rfl rfl (by kernel_rfl) (fun _ _ _ h => h) (Or.inl ⟨by rfl, ?_⟩) ?_ ?_
            rotate_left
            · intro w'
              go_simp
              with_reducible rfl
            rotate_left
            · simp only [Act.put, List.setIfInBounds_toArray, List.set_cons_zero, List.set_cons_succ, i64_w, i32_w]
              rfl
            refine pure_ (i := 21) (N := some 105) (v := ?_) (a' := ?_) #[true, true, true, true, true, true, true, true, true, true, true, true, true, true, true, true, true, true, true, false, true, true, false, false, false, false, false, false, false, false, false, false, false, false, false, false, false, false, false, false] rfl rfl (by kernel_rfl) (fun _ _ _ h => h) (Or.inl ⟨by rfl, ?_⟩) ?_ ?_
            rotate_left
            · intro w'
              go_simp
              with_reducible rfl
            rotate_left
            · simp only [Act.put, List.setIfInBounds_toArray, List.set_cons_zero, List.set_cons_succ, i64_w, i32_w]
              rfl
            refine pure_ (i := 22) (N := some 106) (v := ?_) (a' := ?_) #[true, true, true, true, true, true, true, true, true, true, true, true, true, true, true, true, true, true, true, false, true, true, true, false, false, false, false, false, false, false, false, false, false, false, false, false, false, false, false, false] rfl rfl (by kernel_rfl) (fun _ _ _ h => h) (Or.inl ⟨by rfl, ?_⟩) ?_ ?_
            rotate_left
            · intro w'
              go_simp
              with_reducible rfl
            rotate_left
            · simp only [Act.put, List.setIfInBounds_toArray, List.set_cons_zero, List.set_cons_succ, i64_w, i32_w]
              rfl
            refine take_ (i := 19) (N := some 103) (v := ?_) (a' := ?_) #[true, true, true, true, true, true, true, true, true, true, true, true, true, true, true, true, true, true, true, true, true, true, true, false, false, false, false, false, false, false, false, false, false, false, false, false, false, false, false, false] rfl rfl (by kernel_rfl) (fun _ _ _ h => h) (Or.inl ⟨by rfl, ?_⟩) hHeld ?_ ?_
            rotate_left
            · rintro w' ⟨s0, s1, s2⟩
              go_simp
              with_reducible rfl
            rotate_left
            · simp only [Act.put, List.setIfInBounds_toArray, List.set_cons_zero, List.set_cons_succ, i64_w, i32_w]
              rfl
            refine take_ (i := 23) (N := some 107) (v := ?_) (a' := ?_) #[true, true, true, true, true, true, true, true, true, true, true, true, true, true, true, true, true, true, true, true, true, true, true, true, false, false, false, false, false, false, false, false, false, false, false, false, false, false, false, false] rfl rfl (by kernel_rfl) (fun _ _ _ h => h) (Or.inl ⟨by rfl, ?_⟩) hHeld ?_ ?_
            rotate_left
            · rintro w' ⟨s0, s1, s2⟩
              go_simp
              with_reducible rfl
            rotate_left
            · simp only [Act.put, List.setIfInBounds_toArray, List.set_cons_zero, List.set_cons_succ, i64_w, i32_w]
              rfl
            refine pure_ (i := 24) (N := some 108) (v := ?_) (a' := ?_) #[true, true, true, true, true, true, true, true, true, true, true, true, true, true, true, true, true, true, true, true, true, true, true, true, true, false, false, false, false, false, false, false, false, false, false, false, false, false, false, false] rfl rfl (by kernel_rfl) (fun _ _ _ h => h) (Or.inl ⟨by rfl, ?_⟩) ?_ ?_
            rotate_left
            · intro w'
              go_simp
              with_reducible rfl
            rotate_left
            · simp only [Act.put, List.setIfInBounds_toArray, List.set_cons_zero, List.set_cons_succ, i64_w, i32_w]
              rfl
            refine pure_ (i := 25) (N := some 109) (v := ?_) (a' := ?_) #[true, true, true, true, true, true, true, true, true, true, true, true, true, true, true, true, true, true, true, true, true, true, true, true, true, true, false, false, false, false, false, false, false, false, false, false, false, false, false, false] rfl rfl (by kernel_rfl) (fun _ _ _ h => h) (Or.inl ⟨by rfl, ?_⟩) ?_ ?_
            rotate_left
            · intro w'
              go_simp
              with_reducible rfl
            rotate_left
            · simp only [Act.put, List.setIfInBounds_toArray, List.set_cons_zero, List.set_cons_succ, i64_w, i32_w]
              rfl
            refine pure_ (i := 26) (N := some 110) (v := ?_) (a' := ?_) #[true, true, true, true, true, true, true, true, true, true, true, true, true, true, true, true, true, true, true, true, true, true, true, true, true, true, true, false, false, false, false, false, false, false, false, false, false, false, false, false] rfl rfl (by kernel_rfl) (fun _ _ _ h => h) (Or.inl ⟨by rfl, ?_⟩) ?_ ?_
            rotate_left
            · intro w'
              go_simp
              with_reducible rfl
            rotate_left
            · simp only [Act.put, List.setIfInBounds_toArray, List.set_cons_zero, List.set_cons_succ, i64_w, i32_w]
              rfl
            refine pure_ (i := 27) (N := some 111) (v := ?_) (a' := ?_) #[true, true, true, true, true, true, true, true, true, true, true, true, true, true, true, true, true, true, true, true, true, true, true, true, true, true, true, true, false, false, false, false, false, false, false, false, false, false, false, false] rfl rfl (by kernel_rfl) (fun _ _ _ h => h) (Or.inl ⟨by rfl, ?_⟩) ?_ ?_
            rotate_left
            · intro w'
              go_simp
              with_reducible rfl
            rotate_left
            · simp only [Act.put, List.setIfInBounds_toArray, List.set_cons_zero, List.set_cons_succ, i64_w, i32_w]
              rfl
            refine take_ (i := 28) (N := some 112) (v := ?_) (a' := ?_) #[true, true, true, true, true, true, true, true, true, true, true, true, true, true, true, true, true, true, true, true, true, true, true, true, true, true, true, true, true, false, false, false, false, false, false, false, false, false, false, false] rfl rfl (by kernel_rfl) (fun _ _ _ h => h) (Or.inl ⟨by rfl, ?_⟩) hHeld ?_ ?_
            rotate_left
            · rintro w' ⟨s0, s1, s2⟩
              go_simp
              with_reducible rfl
            rotate_left
            · simp only [Act.put, List.setIfInBounds_toArray, List.set_cons_zero, List.set_cons_succ, i64_w, i32_w]
              rfl
            refine pure_ (i := 29) (N := some 113) (v := ?_) (a' := ?_) #[true, true, true, true, true, true, true, true, true, true, true, true, true, true, true, true, true, true, true, true, true, true, true, true, true, true, true, true, true, true, false, false, false, false, false, false, false, false, false, false] rfl rfl (by kernel_rfl) (fun _ _ _ h => h) (Or.inl ⟨by rfl, ?_⟩) ?_ ?_
            rotate_left
            · intro w'
              go_simp
              with_reducible rfl
            rotate_left
            · simp only [Act.put, List.setIfInBounds_toArray, List.set_cons_zero, List.set_cons_succ, i64_w, i32_w]
              rfl
            refine pure_ (i := 30) (N := some 114) (v := ?_) (a' := ?_) #[true, true, true, true, true, true, true, true, true, true, true, true, true, true, true, true, true, true, true, true, true, true, true, true, true, true, true, true, true, true, true, false, false, false, false, false, false, false, false, false] rfl rfl (by kernel_rfl) (fun _ _ _ h => h) (Or.inl ⟨by rfl, ?_⟩) ?_ ?_
            rotate_left
            · intro w'
              go_simp
              with_reducible rfl
            rotate_left
            · simp only [Act.put, List.setIfInBounds_toArray, List.set_cons_zero, List.set_cons_succ, i64_w, i32_w]
              rfl
            refine pure_ (i := 31) (N := some 115) (v := ?_) (a' := ?_) #[true, true, true, true, true, true, true, true, true, true, true, true, true, true, true, true, true, true, true, true, true, true, true, true, true, true, true, true, true, true, true, true, false, false, false, false, false, false, false, false] rfl rfl (by kernel_rfl) (fun _ _ _ h => h) (Or.inl ⟨by rfl, ?_⟩) ?_ ?_
            rotate_left
            · intro w'
              go_simp
              with_reducible rfl
            rotate_left
            · simp only [Act.put, List.setIfInBounds_toArray, List.set_cons_zero, List.set_cons_succ, i64_w, i32_w]
              rfl
            refine pure_ (i := 32) (N := some 116) (v := ?_) (a' := ?_) #[true, true, true, true, true, true, true, true, true, true, true, true, true, true, true, true, true, true, true, true, true, true, true, true, true, true, true, true, true, true, true, true, true, false, false, false, false, false, false, false] rfl rfl (by kernel_rfl) (fun _ _ _ h => h) (Or.inl ⟨by rfl, ?_⟩) ?_ ?_
            rotate_left
            · intro w'
              go_simp
              with_reducible rfl
            rotate_left
            · simp only [Act.put, List.setIfInBounds_toArray, List.set_cons_zero, List.set_cons_succ, i64_w, i32_w]
              rfl
            refine pure_ (i := 33) (N := some 117) (v := ?_) (a' := ?_) #[true, true, true, true, true, true, true, true, true, true, true, true, true, true, true, true, true, true, true, true, true, true, true, true, true, true, true, true, true, true, true, true, true, true, false, false, false, false, false, false] rfl rfl (by kernel_rfl) (fun _ _ _ h => h) (Or.inl ⟨by rfl, ?_⟩) ?_ ?_
            rotate_left
            · intro w'
              go_simp
              with_reducible rfl
            rotate_left
            · simp only [Act.put, List.setIfInBounds_toArray, List.set_cons_zero, List.set_cons_succ, i64_w, i32_w]
              rfl
            refine pure_ (i := 34) (N := some 118) (v := ?_) (a' := ?_) #[true, true, true, true, true, true, true, true, true, true, true, true, true, true, true, true, true, true, true, true, true, true, true, true, true, true, true, true, true, true, true, true, true, true, true, false, false, false, false, false] rfl rfl (by kernel_rfl) (fun _ _ _ h => h) (Or.inl ⟨by rfl, ?_⟩) ?_ ?_
            rotate_left
            · intro w'
              go_simp
              with_reducible rfl
            rotate_left
            · simp only [Act.put, List.setIfInBounds_toArray, List.set_cons_zero, List.set_cons_succ, i64_w, i32_w]
              rfl
            refine one_ (i := 35) (N := some 119) #[true, true, true, true, true, true, true, true, true, true, true, true, true, true, true, true, true, true, true, true, true, true, true, true, true, true, true, true, true, true, true, true, true, true, true, true, false, false, false, false] rfl rfl (by kernel_rfl) (by decide) (fun K hK => ?_)
            refine goes_ Try.func18 (by kernel_rfl) rfl #[.pointer (some ⟨g, 0, none⟩)] (by rfl) rfl rfl (by first | (simp only [List.map_toArray, List.map_cons, List.map_nil]; done) | (simp only [List.map_toArray, List.map_cons, List.map_nil]; rfl)) ?_
            with_reducible refine (keep_held W2 _ g _ _ _ _ _ _ (HSq.out.below HB2.out)).mono ?_
            rintro e W3 ⟨v3, l3, rfl, hR3, hl3, hby3, hbits3, hb⟩
            refine ⟨_, rfl, ?_⟩
            obtain ⟨A3_, c3_, e3_⟩ := Kd.R_slice hR3
            subst e3_
            have HCN := Aside0.mk (show scullerref03_Count.f 10000 l3 = some 0 from by rw [refcount_eq hby3 (by omega) 10000 (by omega), cb_none (fun j hj => by rw [hbits3 j (by omega)]; rfl)]; rfl)
            have HR3 := Aside0.mk hR3
            have HB3 := Aside0.mk (below_step HB2.out hb)
            clear hb hR3 hl3 hby3 hbits3 hstr2
            refine hK.out _ _ ⟨((HB3.out.cell (World.block_lt_of_cell? _ _ hd0)).trans hd0), ((HB3.out.cell (World.block_lt_of_cell? _ _ hd1)).trans hd1), ((HB3.out.cell (World.block_lt_of_cell? _ _ hda)).trans hda)⟩ (fun hHeld => ?_)
            clear hK K
            refine norm_ (a' := ?_) ?_ ?_
            rotate_left
            · show Act.put _ (some 119) _ = _
              simp only [Act.put, List.setIfInBounds_toArray, List.set_cons_zero, List.set_cons_succ, i64_w, i32_w]
              rfl
            refine one_ (i := 36) (N := some 120) #[true, true, true, true, true, true, true, true, true, true, true, true, true, true, true, true, true, true, true, true, true, true, true, true, true, true, true, true, true, true, true, true, true, true, true, true, true, false, false, false] rfl rfl (by kernel_rfl) (by decide) (fun K hK => ?_)
            refine goes_ Try.func24 (by kernel_rfl) rfl #[.slice A3_ l3.length c3_] (by rfl) rfl rfl (by first | (simp only [List.map_toArray, List.map_cons, List.map_nil]; done) | (simp only [List.map_toArray, List.map_cons, List.map_nil]; rfl)) ?_
            with_reducible refine (scullerref03_Count.calls 10000 A3_ c3_ l3 0 W3 (Kd.R_reads' HR3.out).2.2 (Kd.R_reads' HR3.out).2.1 HCN.out).mono ?_
            rintro e W4 ⟨rfl, hb⟩
            refine ⟨_, rfl, ?_⟩
            have HB4 := Aside0.mk (below_step HB3.out hb.below)
            clear hb
            refine hK.out _ _ ⟨((HB4.out.cell (World.block_lt_of_cell? _ _ hd0)).trans hd0), ((HB4.out.cell (World.block_lt_of_cell? _ _ hd1)).trans hd1), ((HB4.out.cell (World.block_lt_of_cell? _ _ hda)).trans hda)⟩ (fun hHeld => ?_)
            clear hK K
            refine norm_ (a' := ?_) ?_ ?_
            rotate_left
            · show Act.put _ (some 120) _ = _
              simp only [Act.put, List.setIfInBounds_toArray, List.set_cons_zero, List.set_cons_succ, i64_w, i32_w]
              rfl
            refine pure_ (i := 37) (N := some 121) (v := ?_) (a' := ?_) #[true, true, true, true, true, true, true, true, true, true, true, true, true, true, true, true, true, true, true, true, true, true, true, true, true, true, true, true, true, true, true, true, true, true, true, true, true, true, false, false] rfl rfl (by kernel_rfl) (fun _ _ _ h => h) (Or.inl ⟨by rfl, ?_⟩) ?_ ?_
            rotate_left
            · intro w'
              go_simp
              with_reducible rfl
            rotate_left
            · simp only [Act.put, List.setIfInBounds_toArray, List.set_cons_zero, List.set_cons_succ, i64_w, i32_w]
              rfl
            refine pure_ (i := 38) (N := some 122) (v := ?_) (a' := ?_) #[true, true, true, true, true, true, true, true, true, true, true, true, true, true, true, true, true, true, true, true, true, true, true, true, true, true, true, true, true, true, true, true, true, true, true, true, true, true, true, false] rfl rfl (by kernel_rfl) (fun _ _ _ h => h) (Or.inl ⟨by rfl, ?_⟩) ?_ ?_
            rotate_left
            · intro w'
              go_simp
              with_reducible rfl
            rotate_left
            · simp only [Act.put, List.setIfInBounds_toArray, List.set_cons_zero, List.set_cons_succ, i64_w, i32_w]
              rfl
            refine pure_ (i := 39) (N := some 6) (v := ?_) (a' := ?_) #[true, true, true, true, true, true, true, true, true, true, true, true, true, true, true, true, true, true, true, true, true, true, true, true, true, true, true, true, true, true, true, true, true, true, true, true, true, true, true, true] rfl rfl (by kernel_rfl) (fun _ _ _ h => h) (Or.inl ⟨by rfl, ?_⟩) ?_ ?_
            rotate_left
            · intro w'
              go_simp
              with_reducible rfl
            rotate_left
            · simp only [Act.put, List.setIfInBounds_toArray, List.set_cons_zero, List.set_cons_succ, i64_w, i32_w]
              rfl
            refine done_ (by kernel_rfl) ?_
            go_wp2_with fail
            go_ret
            exact ⟨rfl, below_step HBq.out HB4.out⟩
          · have hob : ob = none := by rw [HOB.out, if_neg hin]
            subst hob
            have hRd : Kd.R (Kd.int .u8) 5 wq w9.heap.size (fun _ => True) vd [] := hRd
            obtain ⟨Ad, cd, ed⟩ := Kd.R_slice hRd
            subst ed
            go_wp2_with fail
            refine start_ (n := 40) (S := fun w' => True) (ds := []) #[false, false, false, false, false, false, false, false, false, false, false, false, false, false, false, false, false, false, false, false, false, false, false, false, false, false, false, false, false, false, false, false, false, false, false, false, false, false, false, false] (by kernel_rfl) rfl rfl trivial (fun hHeld => ?_)
            refine one_ (i := 0) (N := some 84) #[true, false, false, false, false, false, false, false, false, false, false, false, false, false, false, false, false, false, false, false, false, false, false, false, false, false, false, false, false, false, false, false, false, false, false, false, false, false, false, false] rfl rfl (by kernel_rfl) (by decide) (fun K hK => ?_)
            refine goes_ Try.func14 (by kernel_rfl) rfl #[] (by rfl) rfl rfl (by first | (simp only [List.map_toArray, List.map_cons, List.map_nil]; done) | (simp only [List.map_toArray, List.map_cons, List.map_nil]; rfl)) ?_
            with_reducible refine (keep_known _).mono ?_
            rintro e W1 ⟨rfl, hb⟩
            refine ⟨_, rfl, ?_⟩
            have HB1 := Aside0.mk (below_step (below_drew1 (Below.refl wq.heap.size wq)) hb)
            clear hb
            refine hK.out _ _ trivial (fun hHeld => ?_)
            clear hK K
            refine norm_ (a' := ?_) ?_ ?_
            rotate_left
            · show Act.put _ (some 84) _ = _
              simp only [Act.put, List.setIfInBounds_toArray, List.set_cons_zero, List.set_cons_succ, i64_w, i32_w]
              rfl
            refine pure_ (i := 1) (N := some 85) (v := ?_) (a' := ?_) #[true, true, false, false, false, false, false, false, false, false, false, false, false, false, false, false, false, false, false, false, false, false, false, false, false, false, false, false, false, false, false, false, false, false, false, false, false, false, false, false] rfl rfl (by kernel_rfl) (fun _ _ _ h => h) (Or.inl ⟨by rfl, ?_⟩) ?_ ?_
            rotate_left
            · intro w'
              go_simp
              with_reducible rfl
            rotate_left
            · simp only [Act.put, List.setIfInBounds_toArray, List.set_cons_zero, List.set_cons_succ, i64_w, i32_w]
              rfl
            refine pure_ (i := 2) (N := some 86) (v := ?_) (a' := ?_) #[true, true, true, false, false, false, false, false, false, false, false, false, false, false, false, false, false, false, false, false, false, false, false, false, false, false, false, false, false, false, false, false, false, false, false, false, false, false, false, false] rfl rfl (by kernel_rfl) (fun _ _ _ h => h) (Or.inl ⟨by rfl, ?_⟩) ?_ ?_
            rotate_left
            · intro w'
              go_simp
              with_reducible rfl
            rotate_left
            · simp only [Act.put, List.setIfInBounds_toArray, List.set_cons_zero, List.set_cons_succ, i64_w, i32_w]
              rfl
            refine pure_ (i := 3) (N := some 87) (v := ?_) (a' := ?_) #[true, true, true, true, false, false, false, false, false, false, false, false, false, false, false, false, false, false, false, false, false, false, false, false, false, false, false, false, false, false, false, false, false, false, false, false, false, false, false, false] rfl rfl (by kernel_rfl) (fun _ _ _ h => h) (Or.inl ⟨by rfl, ?_⟩) ?_ ?_
            rotate_left
            · intro w'
              go_simp
              with_reducible rfl
            rotate_left
            · simp only [Act.put, List.setIfInBounds_toArray, List.set_cons_zero, List.set_cons_succ, i64_w, i32_w]
              rfl
            refine one_ (i := 4) (N := some 88) #[true, true, true, true, true, false, false, false, false, false, false, false, false, false, false, false, false, false, false, false, false, false, false, false, false, false, false, false, false, false, false, false, false, false, false, false, false, false, false, false] rfl rfl (by kernel_rfl) (by decide) (fun K hK => ?_)
            refine goes_ Try.func18 (by kernel_rfl) rfl #[.pointer (some ⟨gc, 0, none⟩)] (by rfl) rfl rfl (by first | (simp only [List.map_toArray, List.map_cons, List.map_nil]; done) | (simp only [List.map_toArray, List.map_cons, List.map_nil]; rfl)) ?_
            with_reducible refine (keep_held W1 _ gc _ _ _ _ _ _ (HCq.out.below HB1.out)).mono ?_
            rintro e W2 ⟨v2, l2, rfl, hR2, hl2, hby2, hbits2, hb⟩
            refine ⟨_, rfl, ?_⟩
            obtain ⟨A2_, c2_, e2_⟩ := Kd.R_slice hR2
            subst e2_
            obtain rfl : l2 = lh := B_ext hby2 HLH.out.2.1 (hl2.trans HLH.out.1.symm) (fun j hj => (hbits2 j (by omega)).trans (HLH.out.2.2 j (by omega)).symm)
            have hstr2 := own_string (P := Try.prog) Try.underlying22 Try.underlying5 Try.underlying9 (Kd.own_of_R hR2)
            have HB2 := Aside0.mk (below_step HB1.out hb)
            clear hb hR2 hl2 hby2 hbits2
            refine hK.out _ _ trivial (fun hHeld => ?_)
            clear hK K
            refine norm_ (a' := ?_) ?_ ?_
            rotate_left
            · show Act.put _ (some 88) _ = _
              simp only [Act.put, List.setIfInBounds_toArray, List.set_cons_zero, List.set_cons_succ, i64_w, i32_w]
              rfl
            refine one_ (i := 5) (N := some 89) #[true, true, true, true, true, true, false, false, false, false, false, false, false, false, false, false, false, false, false, false, false, false, false, false, false, false, false, false, false, false, false, false, false, false, false, false, false, false, false, false] rfl rfl (by kernel_rfl) (by decide) (fun K hK => ?_)
            refine value_ (w1 := ?_) (v := ?_) (by rfl) rfl ?_ ?_
            rotate_left 2
            · go_simp
              constructor
              · rfl
              · rfl
            refine hK.out _ _ trivial (fun hHeld => ?_)
            clear hK K
            refine norm_ (a' := ?_) ?_ ?_
            rotate_left
            · show Act.put _ (some 89) _ = _
              simp only [Act.put, List.setIfInBounds_toArray, List.set_cons_zero, List.set_cons_succ, i64_w, i32_w]
              rfl
            refine pure_ (i := 6) (N := some 90) (v := ?_) (a' := ?_) #[true, true, true, true, true, true, true, false, false, false, false, false, false, false, false, false, false, false, false, false, false, false, false, false, false, false, false, false, false, false, false, false, false, false, false, false, false, false, false, false] rfl rfl (by kernel_rfl) (fun _ _ _ h => h) (Or.inl ⟨by rfl, ?_⟩) ?_ ?_
            rotate_left
            · intro w'
              go_simp
              with_reducible rfl
            rotate_left
            · simp only [Act.put, List.setIfInBounds_toArray, List.set_cons_zero, List.set_cons_succ, i64_w, i32_w]
              rfl
            refine pure_ (i := 7) (N := some 91) (v := ?_) (a' := ?_) #[true, true, true, true, true, true, true, true, false, false, false, false, false, false, false, false, false, false, false, false, false, false, false, false, false, false, false, false, false, false, false, false, false, false, false, false, false, false, false, false] rfl rfl (by kernel_rfl) (fun _ _ _ h => h) (Or.inl ⟨by rfl, ?_⟩) ?_ ?_
            rotate_left
            · intro w'
              go_simp
              with_reducible rfl
            rotate_left
            · simp only [Act.put, List.setIfInBounds_toArray, List.set_cons_zero, List.set_cons_succ, i64_w, i32_w]
              rfl
            refine pure_ (i := 8) (N := some 92) (v := ?_) (a' := ?_) #[true, true, true, true, true, true, true, true, true, false, false, false, false, false, false, false, false, false, false, false, false, false, false, false, false, false, false, false, false, false, false, false, false, false, false, false, false, false, false, false] rfl rfl (by kernel_rfl) (fun _ _ _ h => h) (Or.inl ⟨by rfl, ?_⟩) ?_ ?_
            rotate_left
            · intro w'
              go_simp
              with_reducible rfl
            rotate_left
            · simp only [Act.put, List.setIfInBounds_toArray, List.set_cons_zero, List.set_cons_succ, i64_w, i32_w]
              rfl
            refine pure_ (i := 9) (N := some 93) (v := ?_) (a' := ?_) #[true, true, true, true, true, true, true, true, true, true, false, false, false, false, false, false, false, false, false, false, false, false, false, false, false, false, false, false, false, false, false, false, false, false, false, false, false, false, false, false] rfl rfl (by kernel_rfl) (fun _ _ _ h => h) (Or.inl ⟨by rfl, ?_⟩) ?_ ?_
            rotate_left
            · intro w'
              go_simp
              with_reducible rfl
            rotate_left
            · simp only [Act.put, List.setIfInBounds_toArray, List.set_cons_zero, List.set_cons_succ, i64_w, i32_w]
              rfl
            refine pure_ (i := 10) (N := some 94) (v := ?_) (a' := ?_) #[true, true, true, true, true, true, true, true, true, true, true, false, false, false, false, false, false, false, false, false, false, false, false, false, false, false, false, false, false, false, false, false, false, false, false, false, false, false, false, false] rfl rfl (by kernel_rfl) (fun _ _ _ h => h) (Or.inl ⟨by rfl, ?_⟩) ?_ ?_
            rotate_left
            · intro w'
              go_simp
              with_reducible rfl
            rotate_left
            · simp only [Act.put, List.setIfInBounds_toArray, List.set_cons_zero, List.set_cons_succ, i64_w, i32_w]
              rfl
            refine pure_ (i := 11) (N := some 95) (v := ?_) (a' := ?_) #[true, true, true, true, true, true, true, true, true, true, true, true, false, false, false, false, false, false, false, false, false, false, false, false, false, false, false, false, false, false, false, false, false, false, false, false, false, false, false, false] rfl rfl (by kernel_rfl) (fun _ _ _ h => h) (Or.inl ⟨by rfl, ?_⟩) ?_ ?_
            rotate_left
            · intro w'
              go_simp
              with_reducible rfl
            rotate_left
            · simp only [Act.put, List.setIfInBounds_toArray, List.set_cons_zero, List.set_cons_succ, i64_w, i32_w]
              rfl
            refine pure_ (i := 12) (N := some 96) (v := ?_) (a' := ?_) #[true, true, true, true, true, true, true, true, true, true, true, true, true, false, false, false, false, false, false, false, false, false, false, false, false, false, false, false, false, false, false, false, false, false, false, false, false, false, false, false] rfl rfl (by kernel_rfl) (fun _ _ _ h => h) (Or.inl ⟨by rfl, ?_⟩) ?_ ?_
            rotate_left
            · intro w'
              go_simp
              with_reducible rfl
            rotate_left
            · simp only [Act.put, List.setIfInBounds_toArray, List.set_cons_zero, List.set_cons_succ, i64_w, i32_w]
              rfl
            refine pure_ (i := 13) (N := some 97) (v := ?_) (a' := ?_) #[true, true, true, true, true, true, true, true, true, true, true, true, true, true, false, false, false, false, false, false, false, false, false, false, false, false, false, false, false, false, false, false, false, false, false, false, false, false, false, false] rfl rfl (by kernel_rfl) (fun _ _ _ h => h) (Or.inl ⟨by rfl, ?_⟩) ?_ ?_
            rotate_left
            · intro w'
              go_simp
              with_reducible rfl
            rotate_left
            · simp only [Act.put, List.setIfInBounds_toArray, List.set_cons_zero, List.set_cons_succ, i64_w, i32_w]
              rfl
            refine pure_ (i := 14) (N := some 98) (v := ?_) (a' := ?_) #[true, true, true, true, true, true, true, true, true, true, true, true, true, true, true, false, false, false, false, false, false, false, false, false, false, false, false, false, false, false, false, false, false, false, false, false, false, false, false, false] rfl rfl (by kernel_rfl) (fun _ _ _ h => h) (Or.inl ⟨by rfl, ?_⟩) ?_ ?_
            rotate_left
            · intro w'
              go_simp
              with_reducible rfl
            rotate_left
            · simp only [Act.put, List.setIfInBounds_toArray, List.set_cons_zero, List.set_cons_succ, i64_w, i32_w]
              rfl
            refine pure_ (i := 15) (N := some 99) (v := ?_) (a' := ?_) #[true, true, true, true, true, true, true, true, true, true, true, true, true, true, true, true, false, false, false, false, false, false, false, false, false, false, false, false, false, false, false, false, false, false, false, false, false, false, false, false] rfl rfl (by kernel_rfl) (fun _ _ _ h => h) (Or.inl ⟨by rfl, ?_⟩) ?_ ?_
            rotate_left
            · intro w'
              go_simp
              with_reducible rfl
            rotate_left
            · simp only [Act.put, List.setIfInBounds_toArray, List.set_cons_zero, List.set_cons_succ, i64_w, i32_w]
              rfl
            refine pure_ (i := 16) (N := some 100) (v := ?_) (a' := ?_) #[true, true, true, true, true, true, true, true, true, true, true, true, true, true, true, true, true, false, false, false, false, false, false, false, false, false, false, false, false, false, false, false, false, false, false, false, false, false, false, false] rfl rfl (by kernel_rfl) (fun _ _ _ h => h) (Or.inl ⟨by rfl, ?_⟩) ?_ ?_
            rotate_left
            · intro w'
              go_simp
              with_reducible rfl
            rotate_left
            · simp only [Act.put, List.setIfInBounds_toArray, List.set_cons_zero, List.set_cons_succ, i64_w, i32_w]
              rfl
            refine pure_ (i := 17) (N := some 101) (v := undef) (a' := ?_) #[true, true, true, true, true, true, true, true, true, true, true, true, true, true, true, true, true, true, false, false, false, false, false, false, false, false, false, false, false, false, false, false, false, false, false, false, false, false, false, false] rfl rfl (by kernel_rfl) (fun _ _ _ h => h) (Or.inr ⟨by rfl, rfl⟩) ?_ ?_
            rotate_left
            · simp only [Act.put, List.setIfInBounds_toArray, List.set_cons_zero, List.set_cons_succ, i64_w, i32_w]
              rfl
            refine pure_ (i := 18) (N := some 102) (v := undef) (a' := ?_) #[true, true, true, true, true, true, true, true, true, true, true, true, true, true, true, true, true, true, true, false, false, false, false, false, false, false, false, false, false, false, false, false, false, false, false, false, false, false, false, false] rfl rfl (by kernel_rfl) (fun _ _ _ h => h) (Or.inr ⟨by rfl, rfl⟩) ?_ ?_
            rotate_left
            · simp only [Act.put, List.setIfInBounds_toArray, List.set_cons_zero, List.set_cons_succ, i64_w, i32_w]
              rfl
            refine pure_ (i := 19) (N := some 103) (v := undef) (a' := ?_) #[true, true, true, true, true, true, true, true, true, true, true, true, true, true, true, true, true, true, true, true, false, false, false, false, false, false, false, false, false, false, false, false, false, false, false, false, false, false, false, false] rfl rfl (by kernel_rfl) (fun _ _ _ h => h) (Or.inr ⟨by rfl, rfl⟩) ?_ ?_
            rotate_left
            · simp only [Act.put, List.setIfInBounds_toArray, List.set_cons_zero, List.set_cons_succ, i64_w, i32_w]
              rfl
            refine pure_ (i := 20) (N := some 104) (v := undef) (a' := ?_) #[true, true, true, true, true, true, true, true, true, true, true, true, true, true, true, true, true, true, true, true, true, false, false, false, false, false, false, false, false, false, false, false, false, false, false, false, false, false, false, false] rfl rfl (by kernel_rfl) (fun _ _ _ h => h) (Or.inr ⟨by rfl, rfl⟩) ?_ ?_
            rotate_left
            · simp only [Act.put, List.setIfInBounds_toArray, List.set_cons_zero, List.set_cons_succ, i64_w, i32_w]
              rfl
            refine pure_ (i := 21) (N := some 105) (v := undef) (a' := ?_) #[true, true, true, true, true, true, true, true, true, true, true, true, true, true, true, true, true, true, true, true, true, true, false, false, false, false, false, false, false, false, false, false, false, false, false, false, false, false, false, false] rfl rfl (by kernel_rfl) (fun _ _ _ h => h) (Or.inr ⟨by rfl, rfl⟩) ?_ ?_
            rotate_left
            · simp only [Act.put, List.setIfInBounds_toArray, List.set_cons_zero, List.set_cons_succ, i64_w, i32_w]
              rfl
            refine pure_ (i := 22) (N := some 106) (v := undef) (a' := ?_) #[true, true, true, true, true, true, true, true, true, true, true, true, true, true, true, true, true, true, true, true, true, true, true, false, false, false, false, false, false, false, false, false, false, false, false, false, false, false, false, false] rfl rfl (by kernel_rfl) (fun _ _ _ h => h) (Or.inr ⟨by rfl, rfl⟩) ?_ ?_
            rotate_left
            · simp only [Act.put, List.setIfInBounds_toArray, List.set_cons_zero, List.set_cons_succ, i64_w, i32_w]
              rfl
            refine pure_ (i := 23) (N := some 107) (v := undef) (a' := ?_) #[true, true, true, true, true, true, true, true, true, true, true, true, true, true, true, true, true, true, true, true, true, true, true, true, false, false, false, false, false, false, false, false, false, false, false, false, false, false, false, false] rfl rfl (by kernel_rfl) (fun _ _ _ h => h) (Or.inr ⟨by rfl, rfl⟩) ?_ ?_
            rotate_left
            · simp only [Act.put, List.setIfInBounds_toArray, List.set_cons_zero, List.set_cons_succ, i64_w, i32_w]
              rfl
            refine pure_ (i := 24) (N := some 108) (v := undef) (a' := ?_) #[true, true, true, true, true, true, true, true, true, true, true, true, true, true, true, true, true, true, true, true, true, true, true, true, true, false, false, false, false, false, false, false, false, false, false, false, false, false, false, false] rfl rfl (by kernel_rfl) (fun _ _ _ h => h) (Or.inr ⟨by rfl, rfl⟩) ?_ ?_
            rotate_left
            · simp only [Act.put, List.setIfInBounds_toArray, List.set_cons_zero, List.set_cons_succ, i64_w, i32_w]
              rfl
            refine pure_ (i := 25) (N := some 109) (v := undef) (a' := ?_) #[true, true, true, true, true, true, true, true, true, true, true, true, true, true, true, true, true, true, true, true, true, true, true, true, true, true, false, false, false, false, false, false, false, false, false, false, false, false, false, false] rfl rfl (by kernel_rfl) (fun _ _ _ h => h) (Or.inr ⟨by rfl, rfl⟩) ?_ ?_
            rotate_left
            · simp only [Act.put, List.setIfInBounds_toArray, List.set_cons_zero, List.set_cons_succ, i64_w, i32_w]
              rfl
            refine pure_ (i := 26) (N := some 110) (v := undef) (a' := ?_) #[true, true, true, true, true, true, true, true, true, true, true, true, true, true, true, true, true, true, true, true, true, true, true, true, true, true, true, false, false, false, false, false, false, false, false, false, false, false, false, false] rfl rfl (by kernel_rfl) (fun _ _ _ h => h) (Or.inr ⟨by rfl, rfl⟩) ?_ ?_
            rotate_left
            · simp only [Act.put, List.setIfInBounds_toArray, List.set_cons_zero, List.set_cons_succ, i64_w, i32_w]
              rfl
            refine pure_ (i := 27) (N := some 111) (v := undef) (a' := ?_) #[true, true, true, true, true, true, true, true, true, true, true, true, true, true, true, true, true, true, true, true, true, true, true, true, true, true, true, true, false, false, false, false, false, false, false, false, false, false, false, false] rfl rfl (by kernel_rfl) (fun _ _ _ h => h) (Or.inr ⟨by rfl, rfl⟩) ?_ ?_
            rotate_left
            · simp only [Act.put, List.setIfInBounds_toArray, List.set_cons_zero, List.set_cons_succ, i64_w, i32_w]
              rfl
            refine pure_ (i := 28) (N := some 112) (v := undef) (a' := ?_) #[true, true, true, true, true, true, true, true, true, true, true, true, true, true, true, true, true, true, true, true, true, true, true, true, true, true, true, true, true, false, false, false, false, false, false, false, false, false, false, false] rfl rfl (by kernel_rfl) (fun _ _ _ h => h) (Or.inr ⟨by rfl, rfl⟩) ?_ ?_
            rotate_left
            · simp only [Act.put, List.setIfInBounds_toArray, List.set_cons_zero, List.set_cons_succ, i64_w, i32_w]
              rfl
            refine pure_ (i := 29) (N := some 113) (v := undef) (a' := ?_) #[true, true, true, true, true, true, true, true, true, true, true, true, true, true, true, true, true, true, true, true, true, true, true, true, true, true, true, true, true, true, false, false, false, false, false, false, false, false, false, false] rfl rfl (by kernel_rfl) (fun _ _ _ h => h) (Or.inr ⟨by rfl, rfl⟩) ?_ ?_
            rotate_left
            · simp only [Act.put, List.setIfInBounds_toArray, List.set_cons_zero, List.set_cons_succ, i64_w, i32_w]
              rfl
            refine pure_ (i := 30) (N := some 114) (v := undef) (a' := ?_) #[true, true, true, true, true, true, true, true, true, true, true, true, true, true, true, true, true, true, true, true, true, true, true, true, true, true, true, true, true, true, true, false, false, false, false, false, false, false, false, false] rfl rfl (by kernel_rfl) (fun _ _ _ h => h) (Or.inr ⟨by rfl, rfl⟩) ?_ ?_
            rotate_left
            · simp only [Act.put, List.setIfInBounds_toArray, List.set_cons_zero, List.set_cons_succ, i64_w, i32_w]
              rfl
            refine pure_ (i := 31) (N := some 115) (v := ?_) (a' := ?_) #[true, true, true, true, true, true, true, true, true, true, true, true, true, true, true, true, true, true, true, true, true, true, true, true, true, true, true, true, true, true, true, true, false, false, false, false, false, false, false, false] rfl rfl (by kernel_rfl) (fun _ _ _ h => h) (Or.inl ⟨by rfl, ?_⟩) ?_ ?_
            rotate_left
            · intro w'
              go_simp
              with_reducible rfl
            rotate_left
            · simp only [Act.put, List.setIfInBounds_toArray, List.set_cons_zero, List.set_cons_succ, i64_w, i32_w]
              rfl
            refine pure_ (i := 32) (N := some 116) (v := ?_) (a' := ?_) #[true, true, true, true, true, true, true, true, true, true, true, true, true, true, true, true, true, true, true, true, true, true, true, true, true, true, true, true, true, true, true, true, true, false, false, false, false, false, false, false] rfl rfl (by kernel_rfl) (fun _ _ _ h => h) (Or.inl ⟨by rfl, ?_⟩) ?_ ?_
            rotate_left
            · intro w'
              go_simp
              with_reducible rfl
            rotate_left
            · simp only [Act.put, List.setIfInBounds_toArray, List.set_cons_zero, List.set_cons_succ, i64_w, i32_w]
              rfl
            refine pure_ (i := 33) (N := some 117) (v := ?_) (a' := ?_) #[true, true, true, true, true, true, true, true, true, true, true, true, true, true, true, true, true, true, true, true, true, true, true, true, true, true, true, true, true, true, true, true, true, true, false, false, false, false, false, false] rfl rfl (by kernel_rfl) (fun _ _ _ h => h) (Or.inl ⟨by rfl, ?_⟩) ?_ ?_
            rotate_left
            · intro w'
              go_simp
              with_reducible rfl
            rotate_left
            · simp only [Act.put, List.setIfInBounds_toArray, List.set_cons_zero, List.set_cons_succ, i64_w, i32_w]
              rfl
            refine pure_ (i := 34) (N := some 118) (v := ?_) (a' := ?_) #[true, true, true, true, true, true, true, true, true, true, true, true, true, true, true, true, true, true, true, true, true, true, true, true, true, true, true, true, true, true, true, true, true, true, true, false, false, false, false, false] rfl rfl (by kernel_rfl) (fun _ _ _ h => h) (Or.inl ⟨by rfl, ?_⟩) ?_ ?_
            rotate_left
            · intro w'
              go_simp
              with_reducible rfl
            rotate_left
            · simp only [Act.put, List.setIfInBounds_toArray, List.set_cons_zero, List.set_cons_succ, i64_w, i32_w]
              rfl
            refine one_ (i := 35) (N := some 119) #[true, true, true, true, true, true, true, true, true, true, true, true, true, true, true, true, true, true, true, true, true, true, true, true, true, true, true, true, true, true, true, true, true, true, true, true, false, false, false, false] rfl rfl (by kernel_rfl) (by decide) (fun K hK => ?_)
            refine goes_ Try.func18 (by kernel_rfl) rfl #[.pointer (some ⟨g, 0, none⟩)] (by rfl) rfl rfl (by first | (simp only [List.map_toArray, List.map_cons, List.map_nil]; done) | (simp only [List.map_toArray, List.map_cons, List.map_nil]; rfl)) ?_
            with_reducible refine (keep_held W2 _ g _ _ _ _ _ _ (HSq.out.below HB2.out)).mono ?_
            rintro e W3 ⟨v3, l3, rfl, hR3, hl3, hby3, hbits3, hb⟩
            refine ⟨_, rfl, ?_⟩
            obtain ⟨A3_, c3_, e3_⟩ := Kd.R_slice hR3
            subst e3_
            have HCN := Aside0.mk (show scullerref03_Count.f 10000 l3 = some 0 from by rw [refcount_eq hby3 (by omega) 10000 (by omega), cb_none (fun j hj => by rw [hbits3 j (by omega)]; rfl)]; rfl)
            have HR3 := Aside0.mk hR3
            have HB3 := Aside0.mk (below_step HB2.out hb)
            clear hb hR3 hl3 hby3 hbits3 hstr2
            refine hK.out _ _ trivial (fun hHeld => ?_)
            clear hK K
            refine norm_ (a' := ?_) ?_ ?_
            rotate_left
            · show Act.put _ (some 119) _ = _
              simp only [Act.put, List.setIfInBounds_toArray, List.set_cons_zero, List.set_cons_succ, i64_w, i32_w]
              rfl
            refine one_ (i := 36) (N := some 120) #[true, true, true, true, true, true, true, true, true, true, true, true, true, true, true, true, true, true, true, true, true, true, true, true, true, true, true, true, true, true, true, true, true, true, true, true, true, false, false, false] rfl rfl (by kernel_rfl) (by decide) (fun K hK => ?_)
            refine goes_ Try.func24 (by kernel_rfl) rfl #[.slice A3_ l3.length c3_] (by rfl) rfl rfl (by first | (simp only [List.map_toArray, List.map_cons, List.map_nil]; done) | (simp only [List.map_toArray, List.map_cons, List.map_nil]; rfl)) ?_
            with_reducible refine (scullerref03_Count.calls 10000 A3_ c3_ l3 0 W3 (Kd.R_reads' HR3.out).2.2 (Kd.R_reads' HR3.out).2.1 HCN.out).mono ?_
            rintro e W4 ⟨rfl, hb⟩
            refine ⟨_, rfl, ?_⟩
            have HB4 := Aside0.mk (below_step HB3.out hb.below)
            clear hb
            refine hK.out _ _ trivial (fun hHeld => ?_)
            clear hK K
            refine norm_ (a' := ?_) ?_ ?_
            rotate_left
            · show Act.put _ (some 120) _ = _
              simp only [Act.put, List.setIfInBounds_toArray, List.set_cons_zero, List.set_cons_succ, i64_w, i32_w]
              rfl
            refine pure_ (i := 37) (N := some 121) (v := ?_) (a' := ?_) #[true, true, true, true, true, true, true, true, true, true, true, true, true, true, true, true, true, true, true, true, true, true, true, true, true, true, true, true, true, true, true, true, true, true, true, true, true, true, false, false] rfl rfl (by kernel_rfl) (fun _ _ _ h => h) (Or.inl ⟨by rfl, ?_⟩) ?_ ?_
            rotate_left
            · intro w'
              go_simp
              with_reducible rfl
            rotate_left
            · simp only [Act.put, List.setIfInBounds_toArray, List.set_cons_zero, List.set_cons_succ, i64_w, i32_w]
              rfl
            refine pure_ (i := 38) (N := some 122) (v := ?_) (a' := ?_) #[true, true, true, true, true, true, true, true, true, true, true, true, true, true, true, true, true, true, true, true, true, true, true, true, true, true, true, true, true, true, true, true, true, true, true, true, true, true, true, false] rfl rfl (by kernel_rfl) (fun _ _ _ h => h) (Or.inl ⟨by rfl, ?_⟩) ?_ ?_
            rotate_left
            · intro w'
              go_simp
              with_reducible rfl
            rotate_left
            · simp only [Act.put, List.setIfInBounds_toArray, List.set_cons_zero, List.set_cons_succ, i64_w, i32_w]
              rfl
            refine pure_ (i := 39) (N := some 6) (v := ?_) (a' := ?_) #[true, true, true, true, true, true, true, true, true, true, true, true, true, true, true, true, true, true, true, true, true, true, true, true, true, true, true, true, true, true, true, true, true, true, true, true, true, true, true, true] rfl rfl (by kernel_rfl) (fun _ _ _ h => h) (Or.inl ⟨by rfl, ?_⟩) ?_ ?_
            rotate_left
            · intro w'
              go_simp
              with_reducible rfl
            rotate_left
            · simp only [Act.put, List.setIfInBounds_toArray, List.set_cons_zero, List.set_cons_succ, i64_w, i32_w]
              rfl
            refine done_ (by kernel_rfl) ?_
            go_wp2_with fail
            go_ret
            exact ⟨rfl, below_step HBq.out HB4.out⟩
set_option maxRecDepth 100000 in
set_option maxHeartbeats 8000000 in
theorem copy_long (w : World) (Aa : Option Addr) (ca : Nat) (a : List Int) (i : Int) (Ak : Option Addr) (nk ck : Nat) (hla : a.length ≤ 140737488351232) (hl : ¬ a.length ≤ 60) :
    Calls Try.prog 5 #[.slice Aa a.length ca, .int .u8 i, .slice Ak nk ck] w fun e w' => e = .returned (.bool true) ∧ Below w.heap.size w w' := by
  have hl' : (a.length : Int) > 60 := by omega
  go_enter Try.func5, Try.ntmps5
  go_wp2_with fail
  refine (keep_known w).mono ?_
  rintro e w1 ⟨rfl, hb_⟩
  have HB := Aside0.mk hb_
  clear hb_
  go_wp2
  go_ret
  exact ⟨rfl, HB.out⟩
/-- What the law KeepCopy computes. -/
def scullerlaw15_KeepCopy.f (a : List Int) (i : Int) (ks : List Bool) : Option Bool := if a.length ≤ 140737488351232 ∧ (∀ x ∈ a, (Lit.int .u8 x).wf = true) ∧ (Lit.int .u8 i).wf = true then some true else none
theorem scullerlaw15_KeepCopy.f_true (a : List Int) (i : Int) (ks : List Bool) (h : a.length ≤ 140737488351232) (ha : ∀ x ∈ a, (Lit.int .u8 x).wf = true) (hi : (Lit.int .u8 i).wf = true) : scullerlaw15_KeepCopy.f a i ks = some true := by
  unfold scullerlaw15_KeepCopy.f
  rw [if_pos ⟨h, ha, hi⟩]
theorem scullerlaw15_KeepCopy.calls (Aa : Option Addr) (ca : Nat) (a : List Int) (i : Int) (Ak : Option Addr) (ck : Nat) (ks : List Bool) (r : Bool) (w : World)
    (hra : Kd.C (Kd.int .u8) w Aa a.length a) (hca : a.length ≤ ca) (hrk : Kd.C Kd.bool w Ak ks.length ks) (hck : ks.length ≤ ck) (h : scullerlaw15_KeepCopy.f a i ks = some r) :
    Calls Try.prog 5 #[.slice Aa a.length ca, .int .u8 i, .slice Ak ks.length ck] w fun e w' => e = .returned (.bool r) ∧ Below w.heap.size w w' := by
  unfold scullerlaw15_KeepCopy.f at h
  split at h
  · rename_i hh
    obtain rfl := Option.some.inj h
    by_cases hl : a.length ≤ 60
    · exact copy_walk w Aa ca a i Ak ks.length ck hra hca (Bytes.of_wf hh.2.1) (bounds_u8 hh.2.2) hl
    · exact copy_long w Aa ca a i Ak ks.length ck hh.1 hl
  · cases h
end Go.Proofs.Ytliohoalackhiaa.E
