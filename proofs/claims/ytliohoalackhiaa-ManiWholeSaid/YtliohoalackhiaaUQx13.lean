/- Written by a program of this repo (wip/tools/gprint.py): what functions of the Go program compute, the proofs that they do, and the rows of statements. Conditions: those in each theorem. -/
import Derived.Test.YtliohoalackhiaaUQx0
import Derived.Test.YtliohoalackhiaaUQx2
import Derived.Test.YtliohoalackhiaaUQx6
import Derived.Test.YtliohoalackhiaaUQx7
import Derived.Test.YtliohoalackhiaaUQx8
import Derived.Test.YtliohoalackhiaaUQx9
import Derived.Test.YtliohoalackhiaaUQx10
import Derived.Test.YtliohoalackhiaaUQx11
import Derived.Test.YtliohoalackhiaaUQx12
import Derived.Test.YtliohoalackhiaaUQgManiOf
import Derived.Test.YtliohoalackhiaaUW
namespace Go.Proofs.Ytliohoalackhiaa.Q
open Go.RowKit Go.Proofs.YtliohoalackhiaaW.PrintWords Go.Proofs.YtliohoalackhiaaW.PrintLast Go.Proofs.YtliohoalackhiaaW.PrintMore
attribute [local go_sem] max2_int min2_int max_two min_two max_three min_three max_four min_four   -- for this text's walks alone
set_option linter.unusedVariables false
set_option linter.unusedSimpArgs false
mutual
def scullerlaw12_ManiWhole.l0 : Nat → List (List Int) → Int → List Int → Int → Int → List Int → Int → Option (Bool)
  | 0, _, _, _, _, _, _, _ => none
  | k + 1, x9, x11, x12, x13, x239000, x239001, x239002 => (mani_Chunks.f k x239000 x239001 x239002).bind fun t239 => (if x13 < t239 then ((mani_Chunk.f k x9 x13).bind fun t240 => ((mani_Size.f k x239000 x239001 x239002 x13).bind fun t243 => (if (t240.length : Int) = t243 then (if (t240.length : Int) = 0 then (some false) else (if x12.length + t240.length < 140737488355328 then (scullerlaw12_ManiWhole.l0 k x9 x11 (x12 ++ t240) (wrap64 (x13 + 1)) x239000 x239001 x239002) else (none))) else (some false)))) else (scullerlaw12_ManiWhole.l1 k x9 x11 x12 ([] : List (List Int)) 0 x239000 x239001 x239002))
def scullerlaw12_ManiWhole.l1 : Nat → List (List Int) → Int → List Int → List (List Int) → Int → Int → List Int → Int → Option (Bool)
  | 0, _, _, _, _, _, _, _, _ => none
  | k + 1, x9, x11, x12, x15, x16, x239000, x239001, x239002 => (mani_Pages.f k x239000 x239001 x239002).bind fun t247 => (if x16 < t247 then ((mani_Page.f k x239000 x239001 x239002 x16).bind fun t248 => (if x15.length < 5864062014805 then (scullerlaw12_ManiWhole.l1 k x9 x11 x12 (x15 ++ [t248]) (wrap64 (x16 + 1)) x239000 x239001 x239002) else (none))) else ((mani_Join.f k x15).bind fun bt254 => ((scullerlaw12_known.f k).bind fun t258 => (if t258 = true then (if x11 = 0 then ((scullerref07_Bytes.f k x9).bind fun t259 => (if (strOfNums x12).toList = (strOfNums t259).toList then (if bt254.2 = true then ((scullerref07_Sizes.f k x9).bind fun t262 => ((scullerref07_SameInts.f k bt254.1 t262).bind fun t265 => (if t265 = true then ((mani_Chunks.f k x239000 x239001 x239002).bind fun t266 => ((mani_Chunk.f k x9 t266).bind fun t267 => (if (t267.length : Int) = 0 then ((mani_Size.f k x239000 x239001 x239002 (-1)).bind fun t270 => (some (t270 == 0))) else (some false)))) else (some false)))) else (some false)) else (some false))) else (some false)) else (some false)))))
end
def scullerlaw12_ManiWhole.f (k : Nat) (a0 : Int) (l1 : List Int) (a2 : Int) (a3 : Int) : Option (Bool) := (scullerlaw12_Arena.f k l1 a2 a3).bind fun t229 => ((mani_Of.f k a0 t229).bind fun bt232 => (scullerlaw12_ManiWhole.l0 k t229 bt232.2.2.2 ([] : List Int) 0 bt232.1 bt232.2.1 bt232.2.2.1))
def scullerlaw12_ManiWhole.T17 : Bool × List (List Nat × List Nat) := (true, [([], []), ([0, 0], [0]), ([1], [1]), ([2, 1], [1, 2]), ([1, 3], [1, 3]), ([4, 1], [4]), ([5], [5]), ([6, 5], [5, 6]), ([5], [5]), ([8, 5, 5], [5, 8]), ([9, 5], [5, 9]), ([7, 10, 5], [5, 7, 10]), ([5, 11], [5, 11]), ([12, 9], [12]), ([13], [13]), ([13, 14], [13, 14]), ([15, 13], [15]), ([16], [16]), ([16], [16]), ([18, 16, 16], [16, 18]), ([17, 19, 19, 16], [16, 17, 19]), ([16, 20], [16, 20]), ([21, 20], [21]), ([22], [22]), ([22], [22]), ([24, 22, 22], [22, 24]), ([23, 25, 25, 22], [22, 23, 25]), ([26, 22], [22, 26]), ([27, 22], [22, 27]), ([22, 28], [22, 28]), ([29, 26], [29]), ([30], [30]), ([31, 30, 30], [30, 31]), ([32, 30], [30, 32]), ([30, 33], [30, 33]), ([34, 32, 0, 1, 2, 3, 4, 5, 6, 7, 8, 9, 10, 11, 12, 13, 14, 15, 16, 17, 18, 19, 20, 21, 22, 23, 24, 25, 26, 27, 28, 29, 30, 31, 32, 33, 34], [34])])
def scullerlaw12_ManiWhole.B17 : List Nat := [0, 1, 3, 7, 15, 31, 63, 127, 63, 319, 831, 2047, 4095, 8191, 16383, 32767, 65535, 131071, 131071, 393215, 1048575, 2097151, 4194303, 8388607, 8388607, 25165823, 67108863, 134217727, 268435455, 536870911, 1073741823, 2147483647, 4294967295, 8589934591, 17179869183, 34359738367]
theorem scullerlaw12_ManiWhole.tab17 : rtab .any (opsOf Try.f12 17) = scullerlaw12_ManiWhole.T17 := by kernel_rfl
theorem scullerlaw12_ManiWhole.bits17 : waitsOk scullerlaw12_ManiWhole.T17.2 scullerlaw12_ManiWhole.B17 = true := by kernel_rfl
set_option maxHeartbeats 8000000 in
set_option maxRecDepth 100000 in
theorem scullerlaw12_ManiWhole.calls (k : Nat) (a0 : Int) (A1 : Option Addr) (c1 : Nat) (l1 : List Int) (a2 : Int) (a3 : Int) (r : Bool) (w : World) (hr1 : Kd.C (Kd.int .u8) w A1 l1.length l1) (hc1 : l1.length ≤ c1) (h : scullerlaw12_ManiWhole.f k a0 l1 a2 a3 = some r) (hr_ : r = true) :
    Calls Try.prog 12 #[.int .u64 a0, .slice A1 l1.length c1, .int .u8 a2, .int .u8 a3] w fun e w' => e = .returned (.bool r) ∧ Below w.heap.size w w' := by
  have HRT_ := Aside0.mk hr_
  clear hr_
  have hu45 := Try.underlying45
  have HR1 := Aside0.mk hr1
  have HC1 := Aside0.mk hc1
  clear hr1 hc1
  have HB := Aside0.mk (Below.refl w.heap.size w)
  have H : ((scullerlaw12_Arena.f k l1 a2 a3).bind fun t229 => ((mani_Of.f k a0 t229).bind fun bt232 => (scullerlaw12_ManiWhole.l0 k t229 bt232.2.2.2 ([] : List Int) 0 bt232.1 bt232.2.1 bt232.2.2.1))) = some r := h
  clear h
  replace H := Option.bind_eq_some_iff.mp H
  obtain ⟨t229, A50, H⟩ := H
  replace H : ((mani_Of.f k a0 t229).bind fun bt232 => (scullerlaw12_ManiWhole.l0 k t229 bt232.2.2.2 ([] : List Int) 0 bt232.1 bt232.2.1 bt232.2.2.1)) = some r := H
  have A5 := Aside0.mk A50
  clear A50
  replace H := Option.bind_eq_some_iff.mp H
  obtain ⟨⟨t232, t233, t236, t237⟩, A60, H⟩ := H
  replace H : (scullerlaw12_ManiWhole.l0 k t229 t237 ([] : List Int) 0 t232 t233 t236) = some r := H
  have A6 := Aside0.mk A60
  clear A60
  have H' := Aside0.mk H
  clear H
  go_enter Try.func12, Try.ntmps12
  go_wp2_with (first | ((with_reducible refine gate_callee (f := 26) rfl ?_); refine goesL_ (some 22) rfl rfl Try.func26 (by kernel_rfl) rfl #[.slice A1 l1.length c1, .int .u8 a2, .int .u8 a3] rfl (by (try simp only [List.map_toArray, List.map_cons, List.map_nil]); first | done | rfl | (simp only [List.length_drop, List.length_take]; rfl)) ?_; (with_reducible refine (scullerlaw12_Arena.calls k _ _ l1 a2 a3 t229 _ ?side1 ?side2 A5.out).mono ?_); (case side1 => repeat (first | exact HR1.out | (with_reducible refine Kd.C_alloc ?_ _) | (with_reducible refine Kd.C_drewN ?_ _) | (with_reducible refine Kd.C_drew ?_))); (case side2 => exact HC1.out); rintro e w7 ⟨v230, rfl, ho0, hb⟩; refine ⟨_, rfl, ?_⟩; have n0_ := Aside0.mk (Kd.S_lower ho0 (below_size (Far.Bb HB.out))); have n1_ := Aside0.mk (below_step (Far.Bb HB.out) hb); clear HB; have HO231 := n0_; have HB := n1_; clear n0_ n1_; (try clear hb); (try clear hb2); (try clear hk); (try clear hi); (try clear ho0); obtain ⟨Ao8, co8, eo8⟩ := Kd.S_slice HO231.out; subst eo8) | ((with_reducible refine gate_callee (f := 27) rfl ?_); refine goesL_ (some 26) rfl rfl Try.func27 (by kernel_rfl) rfl #[.int .u64 a0, .slice Ao8 t229.length co8] rfl (by (try simp only [List.map_toArray, List.map_cons, List.map_nil]); first | done | rfl | (simp only [List.length_drop, List.length_take]; rfl)) ?_; (with_reducible refine (mani_Of.calls k a0 _ _ t229 t232 t233 t236 t237 _ ?side1 ?side2 A6.out).mono ?_); (case side1 => repeat (first | exact (Kd.S_reads' HO231.out).2.2 | (with_reducible refine Kd.C_alloc ?_ _) | (with_reducible refine Kd.C_drewN ?_ _) | (with_reducible refine Kd.C_drew ?_))); (case side2 => exact (Kd.S_reads' HO231.out).2.1); rintro e w9 ⟨v234, rfl, ho0, hb⟩; refine ⟨_, rfl, ?_⟩; have n0_ := Aside0.mk (Kd.S_below (by (with_reducible repeat (first | apply Kd.S_alloc | apply Kd.S_drewN | apply Kd.S_drew)); exact HO231.out) hb); have n1_ := Aside0.mk (Kd.R_lower ho0 (below_size (Far.Bb HB.out))); have n2_ := Aside0.mk (below_step (Far.Bb HB.out) hb); clear HO231 HB; have HO231 := n0_; have HO235 := n1_; have HB := n2_; clear n0_ n1_ n2_; (try clear hb); (try clear hb2); (try clear hk); (try clear hi); (try clear ho0)) | ((with_reducible refine gate_dst (N := 10) rfl ?_); (try (refine gate_guard (by rfl) ?_; dsimp only)); refine box_event ?hg (N := 10) ?hd (cs := #[.int .u64 0, .slice none 0 0, .int .u32 0]) (t := 45) ?hr ?_; (case hd => rfl); (case hg => rfl); (case hr => first | (go_simp; done) | (go_simp; rfl)); intro gb238 hg w10 hbox hb; have n0_ := Aside0.mk (Kd.S_below (by (with_reducible repeat (first | apply Kd.S_alloc | apply Kd.S_drewN | apply Kd.S_drew)); exact HO231.out) hb); have n1_ := Aside0.mk (Kd.R_below (Far.Ra HO235.out) hb); have n2_ := Aside0.mk (below_step (Far.Bb HB.out) hb); have n3_ := Aside0.mk (hbox); have n4_ := Aside0.mk ((by rw [hg]; exact (below_size (Far.Bb HB.out)) : w.heap.size ≤ gb238)); have n5_ := Aside0.mk ((by rw [hg]; exact (below_size (Far.Bb HB.out)) : w.heap.size ≤ gb238)); clear HO231 HO235 HB; have HO231 := n0_; have HO235 := n1_; have HB := n2_; have BK238 := n3_; have GW238 := n4_; have GE238 := n5_; clear n0_ n1_ n2_ n3_ n4_ n5_; clear hb hbox hg; have hcz11_0 : w10.cell? ⟨gb238, 0, none⟩ = some (.int .u64 0) := (blk_cell BK238.out 0).trans rfl; have hcz11_1 : w10.cell? ⟨gb238, 1, none⟩ = some (.slice none 0 0) := (blk_cell BK238.out 1).trans rfl; have hcz11_2 : w10.cell? ⟨gb238, 2, none⟩ = some (.int .u32 0) := (blk_cell BK238.out 2).trans rfl; have hfz11_0 := blk_frozen BK238.out 0; have hfz11_1 := blk_frozen BK238.out 1; have hfz11_2 := blk_frozen BK238.out 2; obtain ⟨Ao12, co12, eo12⟩ := Kd.R_slice HO235.out; subst eo12))
  go_loopg [12, 13] k (fun kq v12 v13 w' => ∃ (x12_1 : List Int) (x13_1 : Int), v13 = .int .i64 x13_1 ∧ Aside0 (scullerlaw12_ManiWhole.l0 kq t229 t237 x12_1 x13_1 t232 t233 t236 = some r) ∧ Aside0 (kq ≤ k) ∧ Aside0 (Kd.S (Kd.slice 38 (Kd.int .u64)) 50 w' w.heap.size (fun _ => True) (.slice Ao8 t229.length co8) t229) ∧ Aside0 (Kd.R (Kd.int .u8) 5 w' w.heap.size (fun _ => True) v12 x12_1) ∧ Aside0 (Kd.R (Kd.int .i64) 3 w' w.heap.size (fun _ => True) (.slice Ao12 t233.length co12) t233) ∧ Aside0 (w'.heap[gb238]? = some (.cells #[.int .u64 t232, (.slice Ao12 t233.length co12), .int .u32 t236] 45 (0, 0))) ∧ Aside0 (Below w.heap.size w w'))
  case atStart => exact ⟨(([] : List Int)), (0), (by first | rfl | (simp; done) | (simp [*]; done)), H', ⟨Nat.le_refl _⟩, ⟨by (with_reducible repeat (first | apply Kd.S_alloc | apply Kd.S_drewN | apply Kd.S_drew)); exact Kd.S_mono (Kd.S_far (p := ⟨gb238, 2, none⟩) (Kd.S_far (p := ⟨gb238, 1, none⟩) (Kd.S_far (p := ⟨gb238, 0, none⟩) (Kd.S_types HO231.out BK238.out (by decide)) (fun _ hk => hk.2) (.int .u64 t232)) (fun _ hk => hk.2) (.slice Ao12 t233.length co12)) (fun _ hk => hk.2) (.int .u32 t236)) (fun _ hk => trivial)⟩, ⟨by first | exact Kd.R_nil _ _ _ _ _ | exact Kd.N_nil _ _ _ _ _ | exact Kd.V_nil _ _ _ _ _ | exact Kd.Q_nil _ _ _ _ _ | exact Kd.S_nil _ _ _ _ _⟩, ⟨by (with_reducible repeat (first | apply Kd.R_alloc | apply Kd.R_drewN | apply Kd.R_drew)); exact Kd.R_mono (Kd.R_far (p := ⟨gb238, 2, none⟩) (Kd.R_far (p := ⟨gb238, 1, none⟩) (Kd.R_far (p := ⟨gb238, 0, none⟩) (Kd.R_types HO235.out BK238.out (by decide)) (fun _ hk => hk.2) (.int .u64 t232)) (fun _ hk => hk.2) (.slice Ao12 t233.length co12)) (fun _ hk => hk.2) (.int .u32 t236)) (fun _ hk => trivial)⟩, ⟨by (with_reducible repeat (first | refine blk_drewN ?_ _ | refine blk_drew ?_ | refine blk_alloc ?_ _)); refine blk_put (cs := #[.int .u64 t232, .slice Ao12 t233.length co12, .int .u32 0]) ?_ 2 _ rfl; (with_reducible repeat (first | refine blk_drewN ?_ _ | refine blk_drew ?_ | refine blk_alloc ?_ _)); refine blk_put (cs := #[.int .u64 t232, .slice none 0 0, .int .u32 0]) ?_ 1 _ rfl; (with_reducible repeat (first | refine blk_drewN ?_ _ | refine blk_drew ?_ | refine blk_alloc ?_ _)); refine blk_put (cs := #[.int .u64 0, .slice none 0 0, .int .u32 0]) ?_ 0 _ rfl; (with_reducible repeat (first | refine blk_drewN ?_ _ | refine blk_drew ?_ | refine blk_alloc ?_ _)); exact BK238.out⟩, ⟨by repeat (first | (with_reducible first | exact HB.out | apply below_alloc | apply pw_below_drewN | apply below_drew1 | refine below_set ?_ GE238.out) | exact HB.out)⟩⟩
  case round =>
    clear H'; (try clear c1); (try clear c2); (try clear p2); (try clear c12); (try clear hcz11_0); (try clear hcz11_1); (try clear hcz11_2); (try clear hfz11_0); (try clear hfz11_1); (try clear hfz11_2)
    obtain ⟨x12_1, x13_1, rfl, HA, HK1, HO_9, HO_12, HO_239001, BK238, HB⟩ := hrel
    cases gk with
    | zero => exact absurd HA.out (by simp [scullerlaw12_ManiWhole.l0])
    | succ k1 =>
      have H := HA.out
      clear HA
      simp only [scullerlaw12_ManiWhole.l0] at H
      replace H := Option.bind_eq_some_iff.mp H
      obtain ⟨t239, A130, H⟩ := H
      replace H : (if x13_1 < t239 then ((mani_Chunk.f k1 t229 x13_1).bind fun t240 => ((mani_Size.f k1 t232 t233 t236 x13_1).bind fun t243 => (if (t240.length : Int) = t243 then (if (t240.length : Int) = 0 then (some false) else (if x12_1.length + t240.length < 140737488355328 then (scullerlaw12_ManiWhole.l0 k1 t229 t237 (x12_1 ++ t240) (wrap64 (x13_1 + 1)) t232 t233 t236) else (none))) else (some false)))) else (scullerlaw12_ManiWhole.l1 k1 t229 t237 x12_1 ([] : List (List Int)) 0 t232 t233 t236)) = some r := H
      have A13 := Aside0.mk A130
      clear A130
      by_cases c14 : x13_1 < t239
      · rw [if_pos c14] at H
        have c14b0 : decide (x13_1 < t239) = true := decide_eq_true c14
        clear c14
        replace H := Option.bind_eq_some_iff.mp H
        obtain ⟨t240, A150, H⟩ := H
        replace H : ((mani_Size.f k1 t232 t233 t236 x13_1).bind fun t243 => (if (t240.length : Int) = t243 then (if (t240.length : Int) = 0 then (some false) else (if x12_1.length + t240.length < 140737488355328 then (scullerlaw12_ManiWhole.l0 k1 t229 t237 (x12_1 ++ t240) (wrap64 (x13_1 + 1)) t232 t233 t236) else (none))) else (some false))) = some r := H
        have A15 := Aside0.mk A150
        clear A150
        replace H := Option.bind_eq_some_iff.mp H
        obtain ⟨t243, A160, H⟩ := H
        replace H : (if (t240.length : Int) = t243 then (if (t240.length : Int) = 0 then (some false) else (if x12_1.length + t240.length < 140737488355328 then (scullerlaw12_ManiWhole.l0 k1 t229 t237 (x12_1 ++ t240) (wrap64 (x13_1 + 1)) t232 t233 t236) else (none))) else (some false)) = some r := H
        have A16 := Aside0.mk A160
        clear A160
        by_cases c17 : (t240.length : Int) = t243
        · rw [if_pos c17] at H
          have c17b0 : ((t240.length : Int) == t243) = true := beq_iff_eq.mpr c17
          have c17b1 : ((t240.length : Int) != t243) = false := bne_eq_false_iff_eq.mpr c17
          clear c17
          by_cases c18 : (t240.length : Int) = 0
          · rw [if_pos c18] at H
            have c18b0 : ((t240.length : Int) == 0) = true := beq_iff_eq.mpr c18
            have c18b1 : ((t240.length : Int) != 0) = false := bne_eq_false_iff_eq.mpr c18
            clear c18
            exact absurd ((Option.some.inj H).trans HRT_.out) (by decide)
          · rw [if_neg c18] at H
            have c18b0 : ((t240.length : Int) == 0) = false := beq_eq_false_iff_ne.mpr c18
            have c18b1 : ((t240.length : Int) != 0) = true := bne_iff_ne.mpr c18
            have c18b2 : ¬ (t240 = []) := fun h_ => c18 (by rw [h_]; rfl)
            by_cases c25 : x12_1.length + t240.length < 140737488355328
            · rw [if_pos c25] at H
              have LMc25 := Aside0.mk c25
              clear c25
              obtain ⟨y244, hy244⟩ : ∃ y_ : List Int, y_ = (x12_1 ++ t240) := ⟨_, rfl⟩
              replace H : (scullerlaw12_ManiWhole.l0 k1 t229 t237 y244 (wrap64 (x13_1 + 1)) t232 t233 t236) = some r := by first | (rw [hy244]; with_reducible exact H) | (have H2_ := (Option.bind_some _ _).symm.trans H; rw [hy244]; with_reducible exact H2_) | (have H2_ := (Option.bind_some _ _).symm.trans H; with_reducible exact H2_) | with_reducible exact H | (rw [hy244]; exact H) | exact H
              have Ny244 := Aside0.mk hy244
              clear hy244
              have H' := Aside0.mk H
              clear H
              have hcz26_0 : wr.cell? ⟨gb238, 0, none⟩ = some (.int .u64 t232) := (blk_cell BK238.out 0).trans rfl
              have hcz26_1 : wr.cell? ⟨gb238, 1, none⟩ = some (.slice Ao12 t233.length co12) := (blk_cell BK238.out 1).trans rfl
              have hcz26_2 : wr.cell? ⟨gb238, 2, none⟩ = some (.int .u32 t236) := (blk_cell BK238.out 2).trans rfl
              have hfz26_0 := blk_frozen BK238.out 0
              have hfz26_1 := blk_frozen BK238.out 1
              have hfz26_2 := blk_frozen BK238.out 2
              go_wp2_with (first | ((with_reducible refine gate_callee (f := 57) rfl ?_); refine goesL_ (some 31) rfl rfl Try.func57 (by kernel_rfl) rfl #[.agg #[.int .u64 t232, .slice Ao12 t233.length co12, .int .u32 t236]] rfl (by (try simp only [List.map_toArray, List.map_cons, List.map_nil]); first | done | rfl | (simp only [List.length_drop, List.length_take]; rfl)) ?_; (with_reducible refine (mani_Chunks.calls k1 t232 _ _ t233 t236 t239 _ ?side1 ?side2 A13.out).mono ?_); (case side1 => repeat (first | exact (Kd.R_reads' HO_239001.out).2.2 | (with_reducible refine Kd.C_alloc ?_ _) | (with_reducible refine Kd.C_drewN ?_ _) | (with_reducible refine Kd.C_drew ?_))); (case side2 => exact (Kd.R_reads' HO_239001.out).2.1); rintro e w27 ⟨rfl, hb⟩; refine ⟨_, rfl, ?_⟩; have n0_ := Aside0.mk (Kd.S_below (by (with_reducible repeat (first | apply Kd.S_alloc | apply Kd.S_drewN | apply Kd.S_drew)); exact HO_9.out) hb); have n1_ := Aside0.mk (Kd.R_below (Far.Ra HO_12.out) hb); have n2_ := Aside0.mk (Kd.R_below (Far.Ra HO_239001.out) hb); have n3_ := Aside0.mk (blk_below (g := gb238) (o := .cells #[.int .u64 t232, .slice Ao12 t233.length co12, .int .u32 t236] 45 (0, 0)) (Far.Ba BK238.out) hb); have n4_ := Aside0.mk (below_step (by repeat (first | (with_reducible first | exact HB.out | apply below_alloc | apply pw_below_drewN | apply below_drew1 | refine below_set ?_ GE238.out) | exact HB.out)) hb); clear HO_9 HO_12 HO_239001 BK238 HB; have HO_9 := n0_; have HO_12 := n1_; have HO_239001 := n2_; have BK238 := n3_; have HB := n4_; clear n0_ n1_ n2_ n3_ n4_; (try clear hb); (try clear hb2); (try clear hk); (try clear hi)) | ((with_reducible refine gate_callee (f := 58) rfl ?_); refine goesL_ (some 37) rfl rfl Try.func58 (by kernel_rfl) rfl #[.slice Ao8 t229.length co8, .int .i64 x13_1] rfl (by (try simp only [List.map_toArray, List.map_cons, List.map_nil]); first | done | rfl | (simp only [List.length_drop, List.length_take]; rfl)) ?_; (with_reducible refine (mani_Chunk.calls k1 _ _ t229 x13_1 t240 _ ?side1 ?side2 A15.out).mono ?_); (case side1 => repeat (first | exact (Kd.S_reads' HO_9.out).2.2 | (with_reducible refine Kd.C_alloc ?_ _) | (with_reducible refine Kd.C_drewN ?_ _) | (with_reducible refine Kd.C_drew ?_))); (case side2 => exact (Kd.S_reads' HO_9.out).2.1); rintro e w28 ⟨v241, rfl, ho0, hb⟩; refine ⟨_, rfl, ?_⟩; have n0_ := Aside0.mk (Kd.S_below (by (with_reducible repeat (first | apply Kd.S_alloc | apply Kd.S_drewN | apply Kd.S_drew)); exact HO_9.out) hb); have n1_ := Aside0.mk (Kd.R_elder' (Far.Ra HO_12.out) (Kd.R_base ho0) hb); have n2_ := Aside0.mk (Kd.R_below (Far.Ra HO_239001.out) hb); have n3_ := Aside0.mk (Kd.R_lower (Kd.R_new' ho0 (Kd.R_lt (Far.Ra HO_12.out))) (below_size (by repeat (first | (with_reducible first | exact HB.out | apply below_alloc | apply pw_below_drewN | apply below_drew1 | refine below_set ?_ GE238.out) | exact HB.out)))); have n4_ := Aside0.mk (blk_below (g := gb238) (o := .cells #[.int .u64 t232, .slice Ao12 t233.length co12, .int .u32 t236] 45 (0, 0)) (Far.Ba BK238.out) hb); have n5_ := Aside0.mk (below_step (by repeat (first | (with_reducible first | exact HB.out | apply below_alloc | apply pw_below_drewN | apply below_drew1 | refine below_set ?_ GE238.out) | exact HB.out)) hb); clear HO_9 HO_12 HO_239001 BK238 HB; have HO_9 := n0_; have HO_12 := n1_; have HO_239001 := n2_; have HO242 := n3_; have BK238 := n4_; have HB := n5_; clear n0_ n1_ n2_ n3_ n4_ n5_; (try clear hb); (try clear hb2); (try clear hk); (try clear hi); (try clear ho0); obtain ⟨Ao29, co29, eo29⟩ := Kd.R_slice HO242.out; subst eo29; have hcz30_0 : w28.cell? ⟨gb238, 0, none⟩ = some (.int .u64 t232) := (blk_cell BK238.out 0).trans rfl; have hcz30_1 : w28.cell? ⟨gb238, 1, none⟩ = some (.slice Ao12 t233.length co12) := (blk_cell BK238.out 1).trans rfl; have hcz30_2 : w28.cell? ⟨gb238, 2, none⟩ = some (.int .u32 t236) := (blk_cell BK238.out 2).trans rfl; have hfz30_0 := blk_frozen BK238.out 0; have hfz30_1 := blk_frozen BK238.out 1; have hfz30_2 := blk_frozen BK238.out 2) | ((with_reducible refine gate_callee (f := 59) rfl ?_); refine goesL_ (some 42) rfl rfl Try.func59 (by kernel_rfl) rfl #[.agg #[.int .u64 t232, .slice Ao12 t233.length co12, .int .u32 t236], .int .i64 x13_1] rfl (by (try simp only [List.map_toArray, List.map_cons, List.map_nil]); first | done | rfl | (simp only [List.length_drop, List.length_take]; rfl)) ?_; (with_reducible refine (mani_Size.calls k1 t232 _ _ t233 t236 x13_1 t243 _ ?side1 ?side2 A16.out).mono ?_); (case side1 => repeat (first | exact (Kd.R_reads' HO_239001.out).2.2 | (with_reducible refine Kd.C_alloc ?_ _) | (with_reducible refine Kd.C_drewN ?_ _) | (with_reducible refine Kd.C_drew ?_))); (case side2 => exact (Kd.R_reads' HO_239001.out).2.1); rintro e w31 ⟨rfl, hb⟩; refine ⟨_, rfl, ?_⟩; have n0_ := Aside0.mk (Kd.S_below (by (with_reducible repeat (first | apply Kd.S_alloc | apply Kd.S_drewN | apply Kd.S_drew)); exact HO_9.out) hb); have n1_ := Aside0.mk (Kd.R_below (Far.Ra HO_12.out) hb); have n2_ := Aside0.mk (Kd.R_below (Far.Ra HO_239001.out) hb); have n3_ := Aside0.mk (Kd.R_below (Far.Ra HO242.out) hb); have n4_ := Aside0.mk (blk_below (g := gb238) (o := .cells #[.int .u64 t232, .slice Ao12 t233.length co12, .int .u32 t236] 45 (0, 0)) (Far.Ba BK238.out) hb); have n5_ := Aside0.mk (below_step (by repeat (first | (with_reducible first | exact HB.out | apply below_alloc | apply pw_below_drewN | apply below_drew1 | refine below_set ?_ GE238.out) | exact HB.out)) hb); clear HO_9 HO_12 HO_239001 HO242 BK238 HB; have HO_9 := n0_; have HO_12 := n1_; have HO_239001 := n2_; have HO242 := n3_; have BK238 := n4_; have HB := n5_; clear n0_ n1_ n2_ n3_ n4_ n5_; (try clear hb); (try clear hb2); (try clear hk); (try clear hi)) | ((with_reducible refine gate_builtin (b := .append) (xs := #[.tmp 49, .tmp 50]) rfl ?_); (try (refine gate_guard (by rfl) ?_; dsimp only)); at_builtin; refine Kd.R_append_rows (Kd.int .u8) (w0 := w) w.heap.size rfl (.tmp 49) (.tmp 50) 22 5 (.int .u8 0) 1 rfl Try.underlying22 info5 rfl (by decide) (by omega) u12 x12_1 t240 _ _ _ (fun k_ => some k_ ≠ (.slice Ao29 t240.length co29 : Value).ownBlock) (fun _ => False) rfl rfl ?aO ?aR (fun _ _ h => h) (fun _ h => h.elim) ?aF ?aB ?aS ?aL ?_; (case aR => repeat (first | exact (Kd.R_reads' HO242.out).2.2 | (with_reducible refine Kd.C_alloc ?_ _) | (with_reducible refine Kd.C_drewN ?_ _) | (with_reducible refine Kd.C_drew ?_))); (case aB => exact (by repeat (first | (with_reducible first | exact HB.out | apply below_alloc | apply pw_below_drewN | apply below_drew1 | refine below_set ?_ GE238.out) | exact HB.out))); (case aF => exact (fun k_ hk => Kd.fresh' (Kd.R_lt (Far.Ra HO242.out)) k_ hk)); (case aO => exact (Far.Ra (Kd.R_mono HO_12.out (fun _ hk => hk.2)))); (case aS => exact (below_size (by repeat (first | (with_reducible first | exact HB.out | apply below_alloc | apply pw_below_drewN | apply below_drew1 | refine below_set ?_ GE238.out) | exact HB.out)))); (case aL => have := LMc25.out; omega); intro v245 w32 ho hb hg hat; rw [← Ny244.out] at ho; have n0_ := Aside0.mk (Kd.S_over' (by (with_reducible repeat (first | apply Kd.S_alloc | apply Kd.S_drewN | apply Kd.S_drew)); exact HO_9.out) (Kd.R_typed (Far.Ra HO_12.out)) (by decide) hg); have n1_ := Aside0.mk (Kd.R_over' (Far.Ra HO_239001.out) (Kd.R_typed (Far.Ra HO_12.out)) (by decide) hg); have n2_ := Aside0.mk (blk_grown (g := gb238) (o := .cells #[.int .u64 t232, .slice Ao12 t233.length co12, .int .u32 t236] 45 (0, 0)) (Far.Ba BK238.out) hg (Kd.R_ne HO_12.out BK238.out (by decide))); have n3_ := Aside0.mk (Kd.R_after (ok := (fun _ => True)) (Far.Ra HO242.out) hg hat); have n4_ := Aside0.mk (hb); have n5_ := Aside0.mk (ho); clear HO_9 HO_239001 BK238 HO242 HB HO_12; have HO_9 := n0_; have HO_239001 := n1_; have BK238 := n2_; have HO242 := n3_; have HB := n4_; have HO246 := n5_; clear n0_ n1_ n2_ n3_ n4_ n5_; clear ho hb hg hat))
              go_roundg k1
              case measure => have := HK1.out; omega
              case rel => exact ⟨(y244), (wrap64 (x13_1 + 1)), (by first | rfl | (simp; done) | (simp [*]; done)), H', ⟨by have := HK1.out; omega⟩, ⟨by (with_reducible repeat (first | apply Kd.S_alloc | apply Kd.S_drewN | apply Kd.S_drew)); exact HO_9.out⟩, ⟨by (with_reducible repeat (first | apply Kd.R_alloc | apply Kd.R_drewN | apply Kd.R_drew)); exact Kd.R_mono HO246.out (fun _ hk => trivial)⟩, ⟨by (with_reducible repeat (first | apply Kd.R_alloc | apply Kd.R_drewN | apply Kd.R_drew)); exact HO_239001.out⟩, ⟨by (with_reducible repeat (first | refine blk_drewN ?_ _ | refine blk_drew ?_ | refine blk_alloc ?_ _)); exact BK238.out⟩, ⟨by repeat (first | (with_reducible first | exact HB.out | apply below_alloc | apply pw_below_drewN | apply below_drew1 | refine below_set ?_ GE238.out) | exact HB.out)⟩⟩
            · rw [if_neg c25] at H
              exact absurd H (by simp)
        · rw [if_neg c17] at H
          have c17b0 : ((t240.length : Int) == t243) = false := beq_eq_false_iff_ne.mpr c17
          have c17b1 : ((t240.length : Int) != t243) = true := bne_iff_ne.mpr c17
          exact absurd ((Option.some.inj H).trans HRT_.out) (by decide)
      · rw [if_neg c14] at H
        have c14b0 : decide (x13_1 < t239) = false := decide_eq_false c14
        clear c14
        have H' := Aside0.mk H
        clear H
        have hcz39_0 : wr.cell? ⟨gb238, 0, none⟩ = some (.int .u64 t232) := (blk_cell BK238.out 0).trans rfl
        have hcz39_1 : wr.cell? ⟨gb238, 1, none⟩ = some (.slice Ao12 t233.length co12) := (blk_cell BK238.out 1).trans rfl
        have hcz39_2 : wr.cell? ⟨gb238, 2, none⟩ = some (.int .u32 t236) := (blk_cell BK238.out 2).trans rfl
        have hfz39_0 := blk_frozen BK238.out 0
        have hfz39_1 := blk_frozen BK238.out 1
        have hfz39_2 := blk_frozen BK238.out 2
        go_wp2_with (first | ((with_reducible refine gate_callee (f := 57) rfl ?_); refine goesL_ (some 31) rfl rfl Try.func57 (by kernel_rfl) rfl #[.agg #[.int .u64 t232, .slice Ao12 t233.length co12, .int .u32 t236]] rfl (by (try simp only [List.map_toArray, List.map_cons, List.map_nil]); first | done | rfl | (simp only [List.length_drop, List.length_take]; rfl)) ?_; (with_reducible refine (mani_Chunks.calls k1 t232 _ _ t233 t236 t239 _ ?side1 ?side2 A13.out).mono ?_); (case side1 => repeat (first | exact (Kd.R_reads' HO_239001.out).2.2 | (with_reducible refine Kd.C_alloc ?_ _) | (with_reducible refine Kd.C_drewN ?_ _) | (with_reducible refine Kd.C_drew ?_))); (case side2 => exact (Kd.R_reads' HO_239001.out).2.1); rintro e w40 ⟨rfl, hb⟩; refine ⟨_, rfl, ?_⟩; have n0_ := Aside0.mk (Kd.S_below (by (with_reducible repeat (first | apply Kd.S_alloc | apply Kd.S_drewN | apply Kd.S_drew)); exact HO_9.out) hb); have n1_ := Aside0.mk (Kd.R_below (Far.Ra HO_12.out) hb); have n2_ := Aside0.mk (Kd.R_below (Far.Ra HO_239001.out) hb); have n3_ := Aside0.mk (blk_below (g := gb238) (o := .cells #[.int .u64 t232, .slice Ao12 t233.length co12, .int .u32 t236] 45 (0, 0)) (Far.Ba BK238.out) hb); have n4_ := Aside0.mk (below_step (by repeat (first | (with_reducible first | exact HB.out | apply below_alloc | apply pw_below_drewN | apply below_drew1 | refine below_set ?_ GE238.out) | exact HB.out)) hb); clear HO_9 HO_12 HO_239001 BK238 HB; have HO_9 := n0_; have HO_12 := n1_; have HO_239001 := n2_; have BK238 := n3_; have HB := n4_; clear n0_ n1_ n2_ n3_ n4_; (try clear hb); (try clear hb2); (try clear hk); (try clear hi)))
        go_loopg [15, 16] k1 (fun kq v15 v16 w' => ∃ (x15_2 : List (List Int)) (x16_2 : Int), v16 = .int .i64 x16_2 ∧ Aside0 (scullerlaw12_ManiWhole.l1 kq t229 t237 x12_1 x15_2 x16_2 t232 t233 t236 = some r) ∧ Aside0 (kq ≤ k1) ∧ Aside0 (Kd.S (Kd.slice 38 (Kd.int .u64)) 50 w' w.heap.size (fun _ => True) (.slice Ao8 t229.length co8) t229) ∧ Aside0 (Kd.R (Kd.int .u8) 5 w' w.heap.size (fun _ => True) u12 x12_1) ∧ Aside0 (Kd.S (Kd.slice 3 (Kd.int .i64)) 42 w' w.heap.size (fun k_ => some k_ ≠ ((.slice Ao12 t233.length co12) : Value).ownBlock) v15 x15_2) ∧ Aside0 (Kd.R (Kd.int .i64) 3 w' w.heap.size (fun _ => True) (.slice Ao12 t233.length co12) t233) ∧ Aside0 (w'.heap[gb238]? = some (.cells #[.int .u64 t232, (.slice Ao12 t233.length co12), .int .u32 t236] 45 (0, 0))) ∧ Aside0 (Below w.heap.size w w'))
        case atStart => exact ⟨(([] : List (List Int))), (0), (by first | rfl | (simp; done) | (simp [*]; done)), H', ⟨Nat.le_refl _⟩, ⟨by (with_reducible repeat (first | apply Kd.S_alloc | apply Kd.S_drewN | apply Kd.S_drew)); exact HO_9.out⟩, ⟨by (with_reducible repeat (first | apply Kd.R_alloc | apply Kd.R_drewN | apply Kd.R_drew)); exact HO_12.out⟩, ⟨by first | exact Kd.S_nil _ _ _ _ _ | exact Kd.N_nil _ _ _ _ _ | exact Kd.V_nil _ _ _ _ _ | exact Kd.Q_nil _ _ _ _ _ | exact Kd.R_nil _ _ _ _ _⟩, ⟨by (with_reducible repeat (first | apply Kd.R_alloc | apply Kd.R_drewN | apply Kd.R_drew)); exact HO_239001.out⟩, ⟨by (with_reducible repeat (first | refine blk_drewN ?_ _ | refine blk_drew ?_ | refine blk_alloc ?_ _)); exact BK238.out⟩, ⟨by repeat (first | (with_reducible first | exact HB.out | apply below_alloc | apply pw_below_drewN | apply below_drew1 | refine below_set ?_ GE238.out) | exact HB.out)⟩⟩
        case round =>
          clear H'; (try clear c1); (try clear c2); (try clear p2); (try clear c5); (try clear p6); (try clear c12); (try clear c14); (try clear c14b0); (try clear c17); (try clear c17b0); (try clear c17b1); (try clear c18); (try clear c18b0); (try clear c18b1); (try clear c18b2); (try clear c25); (try clear c26); (try clear c27); (try clear hcz11_0); (try clear hcz11_1); (try clear hcz11_2); (try clear hcz19_0); (try clear hcz19_1); (try clear hcz19_2); (try clear hcz23_0); (try clear hcz23_1); (try clear hcz23_2); (try clear hcz26_0); (try clear hcz26_1); (try clear hcz26_2); (try clear hcz30_0); (try clear hcz30_1); (try clear hcz30_2); (try clear hcz33_0); (try clear hcz33_1); (try clear hcz33_2); (try clear hcz37_0); (try clear hcz37_1); (try clear hcz37_2); (try clear hcz39_0); (try clear hcz39_1); (try clear hcz39_2); (try clear hfz11_0); (try clear hfz11_1); (try clear hfz11_2); (try clear hfz19_0); (try clear hfz19_1); (try clear hfz19_2); (try clear hfz23_0); (try clear hfz23_1); (try clear hfz23_2); (try clear hfz26_0); (try clear hfz26_1); (try clear hfz26_2); (try clear hfz30_0); (try clear hfz30_1); (try clear hfz30_2); (try clear hfz33_0); (try clear hfz33_1); (try clear hfz33_2); (try clear hfz37_0); (try clear hfz37_1); (try clear hfz37_2); (try clear hfz39_0); (try clear hfz39_1); (try clear hfz39_2); (try clear p2)
          obtain ⟨x15_2, x16_2, rfl, HA, HK2, HO_9, HO_12, HO_15, HO_239001, BK238, HB⟩ := hrel
          cases gk with
          | zero => exact absurd HA.out (by simp [scullerlaw12_ManiWhole.l1])
          | succ k2 =>
            have H := HA.out
            clear HA
            simp only [scullerlaw12_ManiWhole.l1] at H
            replace H := Option.bind_eq_some_iff.mp H
            obtain ⟨t247, A410, H⟩ := H
            replace H : (if x16_2 < t247 then ((mani_Page.f k2 t232 t233 t236 x16_2).bind fun t248 => (if x15_2.length < 5864062014805 then (scullerlaw12_ManiWhole.l1 k2 t229 t237 x12_1 (x15_2 ++ [t248]) (wrap64 (x16_2 + 1)) t232 t233 t236) else (none))) else ((mani_Join.f k2 x15_2).bind fun bt254 => ((scullerlaw12_known.f k2).bind fun t258 => (if t258 = true then (if t237 = 0 then ((scullerref07_Bytes.f k2 t229).bind fun t259 => (if (strOfNums x12_1).toList = (strOfNums t259).toList then (if bt254.2 = true then ((scullerref07_Sizes.f k2 t229).bind fun t262 => ((scullerref07_SameInts.f k2 bt254.1 t262).bind fun t265 => (if t265 = true then ((mani_Chunks.f k2 t232 t233 t236).bind fun t266 => ((mani_Chunk.f k2 t229 t266).bind fun t267 => (if (t267.length : Int) = 0 then ((mani_Size.f k2 t232 t233 t236 (-1)).bind fun t270 => (some (t270 == 0))) else (some false)))) else (some false)))) else (some false)) else (some false))) else (some false)) else (some false))))) = some r := H
            have A41 := Aside0.mk A410
            clear A410
            by_cases c42 : x16_2 < t247
            · rw [if_pos c42] at H
              have c42b0 : decide (x16_2 < t247) = true := decide_eq_true c42
              clear c42
              replace H := Option.bind_eq_some_iff.mp H
              obtain ⟨t248, A430, H⟩ := H
              replace H : (if x15_2.length < 5864062014805 then (scullerlaw12_ManiWhole.l1 k2 t229 t237 x12_1 (x15_2 ++ [t248]) (wrap64 (x16_2 + 1)) t232 t233 t236) else (none)) = some r := H
              have A43 := Aside0.mk A430
              clear A430
              by_cases c44 : x15_2.length < 5864062014805
              · rw [if_pos c44] at H
                have LMc44 := Aside0.mk c44
                clear c44
                obtain ⟨y251, hy251⟩ : ∃ y_ : List (List Int), y_ = (x15_2 ++ [t248]) := ⟨_, rfl⟩
                replace H : (scullerlaw12_ManiWhole.l1 k2 t229 t237 x12_1 y251 (wrap64 (x16_2 + 1)) t232 t233 t236) = some r := by first | (rw [hy251]; with_reducible exact H) | (have H2_ := (Option.bind_some _ _).symm.trans H; rw [hy251]; with_reducible exact H2_) | (have H2_ := (Option.bind_some _ _).symm.trans H; with_reducible exact H2_) | with_reducible exact H | (rw [hy251]; exact H) | exact H
                have Ny251 := Aside0.mk hy251
                clear hy251
                have H' := Aside0.mk H
                clear H
                have hcz45_0 : wr.cell? ⟨gb238, 0, none⟩ = some (.int .u64 t232) := (blk_cell BK238.out 0).trans rfl
                have hcz45_1 : wr.cell? ⟨gb238, 1, none⟩ = some (.slice Ao12 t233.length co12) := (blk_cell BK238.out 1).trans rfl
                have hcz45_2 : wr.cell? ⟨gb238, 2, none⟩ = some (.int .u32 t236) := (blk_cell BK238.out 2).trans rfl
                have hfz45_0 := blk_frozen BK238.out 0
                have hfz45_1 := blk_frozen BK238.out 1
                have hfz45_2 := blk_frozen BK238.out 2
                go_wp2_with (first | ((with_reducible refine gate_callee (f := 46) rfl ?_); refine goesL_ (some 54) rfl rfl Try.func46 (by kernel_rfl) rfl #[.agg #[.int .u64 t232, .slice Ao12 t233.length co12, .int .u32 t236]] rfl (by (try simp only [List.map_toArray, List.map_cons, List.map_nil]); first | done | rfl | (simp only [List.length_drop, List.length_take]; rfl)) ?_; (with_reducible refine (mani_Pages.calls k2 t232 _ _ t233 t236 t247 _ ?side1 ?side2 A41.out).mono ?_); (case side1 => repeat (first | exact (Kd.R_reads' HO_239001.out).2.2 | (with_reducible refine Kd.C_alloc ?_ _) | (with_reducible refine Kd.C_drewN ?_ _) | (with_reducible refine Kd.C_drew ?_))); (case side2 => exact (Kd.R_reads' HO_239001.out).2.1); rintro e w46 ⟨rfl, hb⟩; refine ⟨_, rfl, ?_⟩; have n0_ := Aside0.mk (Kd.S_below (by (with_reducible repeat (first | apply Kd.S_alloc | apply Kd.S_drewN | apply Kd.S_drew)); exact HO_9.out) hb); have n1_ := Aside0.mk (Kd.R_below (Far.Ra HO_12.out) hb); have n2_ := Aside0.mk (Kd.S_below (by (with_reducible repeat (first | apply Kd.S_alloc | apply Kd.S_drewN | apply Kd.S_drew)); exact HO_15.out) hb); have n3_ := Aside0.mk (Kd.R_below (Far.Ra HO_239001.out) hb); have n4_ := Aside0.mk (blk_below (g := gb238) (o := .cells #[.int .u64 t232, .slice Ao12 t233.length co12, .int .u32 t236] 45 (0, 0)) (Far.Ba BK238.out) hb); have n5_ := Aside0.mk (below_step (by repeat (first | (with_reducible first | exact HB.out | apply below_alloc | apply pw_below_drewN | apply below_drew1 | refine below_set ?_ GE238.out) | exact HB.out)) hb); clear HO_9 HO_12 HO_15 HO_239001 BK238 HB; have HO_9 := n0_; have HO_12 := n1_; have HO_15 := n2_; have HO_239001 := n3_; have BK238 := n4_; have HB := n5_; clear n0_ n1_ n2_ n3_ n4_ n5_; (try clear hb); (try clear hb2); (try clear hk); (try clear hi); have hcz47_0 : w46.cell? ⟨gb238, 0, none⟩ = some (.int .u64 t232) := (blk_cell BK238.out 0).trans rfl; have hcz47_1 : w46.cell? ⟨gb238, 1, none⟩ = some (.slice Ao12 t233.length co12) := (blk_cell BK238.out 1).trans rfl; have hcz47_2 : w46.cell? ⟨gb238, 2, none⟩ = some (.int .u32 t236) := (blk_cell BK238.out 2).trans rfl; have hfz47_0 := blk_frozen BK238.out 0; have hfz47_1 := blk_frozen BK238.out 1; have hfz47_2 := blk_frozen BK238.out 2) | ((with_reducible refine gate_callee (f := 47) rfl ?_); refine goesL_ (some 61) rfl rfl Try.func47 (by kernel_rfl) rfl #[.agg #[.int .u64 t232, .slice Ao12 t233.length co12, .int .u32 t236], .int .i64 x16_2] rfl (by (try simp only [List.map_toArray, List.map_cons, List.map_nil]); first | done | rfl | (simp only [List.length_drop, List.length_take]; rfl)) ?_; (with_reducible refine (mani_Page.calls k2 t232 _ _ t233 t236 x16_2 t248 _ ?side1 ?side2 A43.out).mono ?_); (case side1 => repeat (first | exact (Kd.R_reads' HO_239001.out).2.2 | (with_reducible refine Kd.C_alloc ?_ _) | (with_reducible refine Kd.C_drewN ?_ _) | (with_reducible refine Kd.C_drew ?_))); (case side2 => exact (Kd.R_reads' HO_239001.out).2.1); rintro e w48 ⟨v249, rfl, ho0, hb⟩; refine ⟨_, rfl, ?_⟩; have n0_ := Aside0.mk (Kd.S_below (by (with_reducible repeat (first | apply Kd.S_alloc | apply Kd.S_drewN | apply Kd.S_drew)); exact HO_9.out) hb); have n1_ := Aside0.mk (Kd.R_below (Far.Ra HO_12.out) hb); have n2_ := Aside0.mk (Kd.S_elder' (by (with_reducible repeat (first | apply Kd.S_alloc | apply Kd.S_drewN | apply Kd.S_drew)); exact HO_15.out) (Kd.R_base ho0) hb); have n3_ := Aside0.mk (Kd.R_elder' (Far.Ra HO_239001.out) (Kd.R_base ho0) hb); have n4_ := Aside0.mk (Kd.R_lower (Kd.R_new' ho0 (Kd.R_lt (Far.Ra HO_239001.out))) (below_size (by repeat (first | (with_reducible first | exact HB.out | apply below_alloc | apply pw_below_drewN | apply below_drew1 | refine below_set ?_ GE238.out) | exact HB.out)))); have n5_ := Aside0.mk (blk_below (g := gb238) (o := .cells #[.int .u64 t232, .slice Ao12 t233.length co12, .int .u32 t236] 45 (0, 0)) (Far.Ba BK238.out) hb); have n6_ := Aside0.mk (below_step (by repeat (first | (with_reducible first | exact HB.out | apply below_alloc | apply pw_below_drewN | apply below_drew1 | refine below_set ?_ GE238.out) | exact HB.out)) hb); clear HO_9 HO_12 HO_15 HO_239001 BK238 HB; have HO_9 := n0_; have HO_12 := n1_; have HO_15 := n2_; have HO_239001 := n3_; have HO250 := n4_; have BK238 := n5_; have HB := n6_; clear n0_ n1_ n2_ n3_ n4_ n5_ n6_; (try clear hb); (try clear hb2); (try clear hk); (try clear hi); (try clear ho0); obtain ⟨Ao50, co50, eo50⟩ := Kd.R_slice HO250.out; subst eo50) | ((with_reducible refine gate_builtin (b := .append) (xs := #[.tmp 58, .tmp 62]) rfl ?_); (try (refine gate_guard (by rfl) ?_; dsimp only)); at_builtin; refine Kd.S_append (Kd.slice 3 (Kd.int .i64)) (w0 := w) w.heap.size rfl (.tmp 58) (.tmp 62) 72 42 (.slice none 0 0) 24 rfl Try.underlying72 info42 rfl (by decide) (by omega) u15 x15_2 t248 [.slice Ao50 t248.length co50] (fun k_ => some k_ ≠ (.slice Ao12 t233.length co12 : Value).ownBlock) (fun k_ => some k_ = (.slice Ao50 t248.length co50 : Value).ownBlock) rfl rfl ?aP (fun k_ hk_ => ((Kd.R_mono (ok' := fun k_ => ((fun k_ => some k_ ≠ (.slice Ao12 t233.length co12 : Value).ownBlock)) k_ ∧ some k_ ≠ (u15 : Value).ownBlock) (Kd.R_apart' (HO250.out) (Kd.S_typed HO_15.out) (by decide)) (fun k_ hk => ⟨hk.1.2, hk.2⟩))).1 k_ hk_.symm) ?aF ?aO ?aB ?aS ?aL ?_; (case aP => exact Kd.M_row (Kd.R_mono (Kd.R_tight rfl (Kd.R_mono (ok' := fun k_ => ((fun k_ => some k_ ≠ (.slice Ao12 t233.length co12 : Value).ownBlock)) k_ ∧ some k_ ≠ (u15 : Value).ownBlock) (Kd.R_apart' (HO250.out) (Kd.S_typed HO_15.out) (by decide)) (fun k_ hk => ⟨hk.1.2, hk.2⟩))) (fun _ h_ => h_))); (case aB => exact (by repeat (first | (with_reducible first | exact HB.out | apply below_alloc | apply pw_below_drewN | apply below_drew1 | refine below_set ?_ GE238.out) | exact HB.out))); (case aF => exact (fun k_ hk => Kd.fresh' (Kd.R_lt (Far.Ra HO_239001.out)) k_ hk)); (case aO => exact (by (with_reducible repeat (first | apply Kd.S_alloc | apply Kd.S_drewN | apply Kd.S_drew)); exact Kd.S_mono HO_15.out (fun k_ hk => ⟨hk.1, fun e_ => hk.2 e_⟩))); (case aS => exact (below_size (by repeat (first | (with_reducible first | exact HB.out | apply below_alloc | apply pw_below_drewN | apply below_drew1 | refine below_set ?_ GE238.out) | exact HB.out)))); (case aL => have := LMc44.out; omega); intro v252 w49 ho hb hg hat; rw [← Ny251.out] at ho; have n0_ := Aside0.mk (Kd.S_over' (by (with_reducible repeat (first | apply Kd.S_alloc | apply Kd.S_drewN | apply Kd.S_drew)); exact HO_9.out) (Kd.S_typed (by (with_reducible repeat (first | apply Kd.S_alloc | apply Kd.S_drewN | apply Kd.S_drew)); exact HO_15.out)) (by decide) hg); have n1_ := Aside0.mk (Kd.R_over' (Far.Ra HO_12.out) (Kd.S_typed (by (with_reducible repeat (first | apply Kd.S_alloc | apply Kd.S_drewN | apply Kd.S_drew)); exact HO_15.out)) (by decide) hg); have n2_ := Aside0.mk (Kd.R_over' (Far.Ra HO_239001.out) (Kd.S_typed (by (with_reducible repeat (first | apply Kd.S_alloc | apply Kd.S_drewN | apply Kd.S_drew)); exact HO_15.out)) (by decide) hg); have n3_ := Aside0.mk (blk_grown (g := gb238) (o := .cells #[.int .u64 t232, .slice Ao12 t233.length co12, .int .u32 t236] 45 (0, 0)) (Far.Ba BK238.out) hg (Kd.S_ne HO_15.out BK238.out (by decide))); have n4_ := Aside0.mk (hb); have n5_ := Aside0.mk (ho); clear HO_9 HO_12 HO_239001 BK238 HB HO_15 HO250; have HO_9 := n0_; have HO_12 := n1_; have HO_239001 := n2_; have BK238 := n3_; have HB := n4_; have HO253 := n5_; clear n0_ n1_ n2_ n3_ n4_ n5_; clear ho hb hg hat))
                go_roundg k2
                case measure => have := HK1.out; have := HK2.out; omega
                case rel => exact ⟨(y251), (wrap64 (x16_2 + 1)), (by first | rfl | (simp; done) | (simp [*]; done)), H', ⟨by have := HK1.out; have := HK2.out; omega⟩, ⟨by (with_reducible repeat (first | apply Kd.S_alloc | apply Kd.S_drewN | apply Kd.S_drew)); exact HO_9.out⟩, ⟨by (with_reducible repeat (first | apply Kd.R_alloc | apply Kd.R_drewN | apply Kd.R_drew)); exact HO_12.out⟩, ⟨by (with_reducible repeat (first | apply Kd.S_alloc | apply Kd.S_drewN | apply Kd.S_drew)); exact HO253.out⟩, ⟨by (with_reducible repeat (first | apply Kd.R_alloc | apply Kd.R_drewN | apply Kd.R_drew)); exact Kd.R_mono HO_239001.out (fun _ hk => trivial)⟩, ⟨by (with_reducible repeat (first | refine blk_drewN ?_ _ | refine blk_drew ?_ | refine blk_alloc ?_ _)); exact BK238.out⟩, ⟨by repeat (first | (with_reducible first | exact HB.out | apply below_alloc | apply pw_below_drewN | apply below_drew1 | refine below_set ?_ GE238.out) | exact HB.out)⟩⟩
              · rw [if_neg c44] at H
                exact absurd H (by simp)
            · rw [if_neg c42] at H
              have c42b0 : decide (x16_2 < t247) = false := decide_eq_false c42
              clear c42
              replace H := Option.bind_eq_some_iff.mp H
              obtain ⟨⟨t254, t255⟩, A510, H⟩ := H
              replace H : ((scullerlaw12_known.f k2).bind fun t258 => (if t258 = true then (if t237 = 0 then ((scullerref07_Bytes.f k2 t229).bind fun t259 => (if (strOfNums x12_1).toList = (strOfNums t259).toList then (if t255 = true then ((scullerref07_Sizes.f k2 t229).bind fun t262 => ((scullerref07_SameInts.f k2 t254 t262).bind fun t265 => (if t265 = true then ((mani_Chunks.f k2 t232 t233 t236).bind fun t266 => ((mani_Chunk.f k2 t229 t266).bind fun t267 => (if (t267.length : Int) = 0 then ((mani_Size.f k2 t232 t233 t236 (-1)).bind fun t270 => (some (t270 == 0))) else (some false)))) else (some false)))) else (some false)) else (some false))) else (some false)) else (some false))) = some r := H
              have A51 := Aside0.mk A510
              clear A510
              replace H := Option.bind_eq_some_iff.mp H
              obtain ⟨t258, A520, H⟩ := H
              replace H : (if t258 = true then (if t237 = 0 then ((scullerref07_Bytes.f k2 t229).bind fun t259 => (if (strOfNums x12_1).toList = (strOfNums t259).toList then (if t255 = true then ((scullerref07_Sizes.f k2 t229).bind fun t262 => ((scullerref07_SameInts.f k2 t254 t262).bind fun t265 => (if t265 = true then ((mani_Chunks.f k2 t232 t233 t236).bind fun t266 => ((mani_Chunk.f k2 t229 t266).bind fun t267 => (if (t267.length : Int) = 0 then ((mani_Size.f k2 t232 t233 t236 (-1)).bind fun t270 => (some (t270 == 0))) else (some false)))) else (some false)))) else (some false)) else (some false))) else (some false)) else (some false)) = some r := H
              have A52 := Aside0.mk A520
              clear A520
              by_cases c53 : t258 = true
              · subst c53
                have H1 : (if t237 = 0 then ((scullerref07_Bytes.f k2 t229).bind fun t259 => (if (strOfNums x12_1).toList = (strOfNums t259).toList then (if t255 = true then ((scullerref07_Sizes.f k2 t229).bind fun t262 => ((scullerref07_SameInts.f k2 t254 t262).bind fun t265 => (if t265 = true then ((mani_Chunks.f k2 t232 t233 t236).bind fun t266 => ((mani_Chunk.f k2 t229 t266).bind fun t267 => (if (t267.length : Int) = 0 then ((mani_Size.f k2 t232 t233 t236 (-1)).bind fun t270 => (some (t270 == 0))) else (some false)))) else (some false)))) else (some false)) else (some false))) else (some false)) = some r := by rw [if_pos rfl] at H; exact H
                clear H
                have H := H1
                clear H1
                by_cases c54 : t237 = 0
                · rw [if_pos c54] at H
                  have c54b0 : (t237 == 0) = true := beq_iff_eq.mpr c54
                  have c54b1 : (t237 != 0) = false := bne_eq_false_iff_eq.mpr c54
                  clear c54
                  replace H := Option.bind_eq_some_iff.mp H
                  obtain ⟨t259, A550, H⟩ := H
                  replace H : (if (strOfNums x12_1).toList = (strOfNums t259).toList then (if t255 = true then ((scullerref07_Sizes.f k2 t229).bind fun t262 => ((scullerref07_SameInts.f k2 t254 t262).bind fun t265 => (if t265 = true then ((mani_Chunks.f k2 t232 t233 t236).bind fun t266 => ((mani_Chunk.f k2 t229 t266).bind fun t267 => (if (t267.length : Int) = 0 then ((mani_Size.f k2 t232 t233 t236 (-1)).bind fun t270 => (some (t270 == 0))) else (some false)))) else (some false)))) else (some false)) else (some false)) = some r := H
                  have A55 := Aside0.mk A550
                  clear A550
                  by_cases c56 : (strOfNums x12_1).toList = (strOfNums t259).toList
                  · rw [if_pos c56] at H
                    have c56b0 : ((strOfNums x12_1).toList == (strOfNums t259).toList) = true := beq_iff_eq.mpr c56
                    have c56b1 : ((strOfNums x12_1).toList != (strOfNums t259).toList) = false := bne_eq_false_iff_eq.mpr c56
                    clear c56
                    by_cases c57 : t255 = true
                    · subst c57
                      have H1 : ((scullerref07_Sizes.f k2 t229).bind fun t262 => ((scullerref07_SameInts.f k2 t254 t262).bind fun t265 => (if t265 = true then ((mani_Chunks.f k2 t232 t233 t236).bind fun t266 => ((mani_Chunk.f k2 t229 t266).bind fun t267 => (if (t267.length : Int) = 0 then ((mani_Size.f k2 t232 t233 t236 (-1)).bind fun t270 => (some (t270 == 0))) else (some false)))) else (some false)))) = some r := by rw [if_pos rfl] at H; exact H
                      clear H
                      have H := H1
                      clear H1
                      replace H := Option.bind_eq_some_iff.mp H
                      obtain ⟨t262, A580, H⟩ := H
                      replace H : ((scullerref07_SameInts.f k2 t254 t262).bind fun t265 => (if t265 = true then ((mani_Chunks.f k2 t232 t233 t236).bind fun t266 => ((mani_Chunk.f k2 t229 t266).bind fun t267 => (if (t267.length : Int) = 0 then ((mani_Size.f k2 t232 t233 t236 (-1)).bind fun t270 => (some (t270 == 0))) else (some false)))) else (some false))) = some r := H
                      have A58 := Aside0.mk A580
                      clear A580
                      replace H := Option.bind_eq_some_iff.mp H
                      obtain ⟨t265, A590, H⟩ := H
                      replace H : (if t265 = true then ((mani_Chunks.f k2 t232 t233 t236).bind fun t266 => ((mani_Chunk.f k2 t229 t266).bind fun t267 => (if (t267.length : Int) = 0 then ((mani_Size.f k2 t232 t233 t236 (-1)).bind fun t270 => (some (t270 == 0))) else (some false)))) else (some false)) = some r := H
                      have A59 := Aside0.mk A590
                      clear A590
                      by_cases c60 : t265 = true
                      · subst c60
                        have H1 : ((mani_Chunks.f k2 t232 t233 t236).bind fun t266 => ((mani_Chunk.f k2 t229 t266).bind fun t267 => (if (t267.length : Int) = 0 then ((mani_Size.f k2 t232 t233 t236 (-1)).bind fun t270 => (some (t270 == 0))) else (some false)))) = some r := by rw [if_pos rfl] at H; exact H
                        clear H
                        have H := H1
                        clear H1
                        replace H := Option.bind_eq_some_iff.mp H
                        obtain ⟨t266, A610, H⟩ := H
                        replace H : ((mani_Chunk.f k2 t229 t266).bind fun t267 => (if (t267.length : Int) = 0 then ((mani_Size.f k2 t232 t233 t236 (-1)).bind fun t270 => (some (t270 == 0))) else (some false))) = some r := H
                        have A61 := Aside0.mk A610
                        clear A610
                        replace H := Option.bind_eq_some_iff.mp H
                        obtain ⟨t267, A620, H⟩ := H
                        replace H : (if (t267.length : Int) = 0 then ((mani_Size.f k2 t232 t233 t236 (-1)).bind fun t270 => (some (t270 == 0))) else (some false)) = some r := H
                        have A62 := Aside0.mk A620
                        clear A620
                        by_cases c63 : (t267.length : Int) = 0
                        · rw [if_pos c63] at H
                          have c63b0 : ((t267.length : Int) == 0) = true := beq_iff_eq.mpr c63
                          have c63b1 : ((t267.length : Int) != 0) = false := bne_eq_false_iff_eq.mpr c63
                          clear c63
                          replace H := Option.bind_eq_some_iff.mp H
                          obtain ⟨t270, A640, H⟩ := H
                          replace H : (some (t270 == 0)) = some r := H
                          have A64 := Aside0.mk A640
                          clear A640
                          obtain rfl := Option.some.inj H
                          have hcz65_0 : wr.cell? ⟨gb238, 0, none⟩ = some (.int .u64 t232) := (blk_cell BK238.out 0).trans rfl
                          have hcz65_1 : wr.cell? ⟨gb238, 1, none⟩ = some (.slice Ao12 t233.length co12) := (blk_cell BK238.out 1).trans rfl
                          have hcz65_2 : wr.cell? ⟨gb238, 2, none⟩ = some (.int .u32 t236) := (blk_cell BK238.out 2).trans rfl
                          have hfz65_0 := blk_frozen BK238.out 0
                          have hfz65_1 := blk_frozen BK238.out 1
                          have hfz65_2 := blk_frozen BK238.out 2
                          try go_wp2_with (first | ((with_reducible refine gate_callee (f := 46) rfl ?_); refine goesL_ (some 54) rfl rfl Try.func46 (by kernel_rfl) rfl #[.agg #[.int .u64 t232, .slice Ao12 t233.length co12, .int .u32 t236]] rfl (by (try simp only [List.map_toArray, List.map_cons, List.map_nil]); first | done | rfl | (simp only [List.length_drop, List.length_take]; rfl)) ?_; (with_reducible refine (mani_Pages.calls k2 t232 _ _ t233 t236 t247 _ ?side1 ?side2 A41.out).mono ?_); (case side1 => repeat (first | exact (Kd.R_reads' HO_239001.out).2.2 | (with_reducible refine Kd.C_alloc ?_ _) | (with_reducible refine Kd.C_drewN ?_ _) | (with_reducible refine Kd.C_drew ?_))); (case side2 => exact (Kd.R_reads' HO_239001.out).2.1); rintro e w66 ⟨rfl, hb⟩; refine ⟨_, rfl, ?_⟩; have n0_ := Aside0.mk (Kd.S_below (by (with_reducible repeat (first | apply Kd.S_alloc | apply Kd.S_drewN | apply Kd.S_drew)); exact HO_9.out) hb); have n1_ := Aside0.mk (Kd.R_below (Far.Ra HO_12.out) hb); have n2_ := Aside0.mk (Kd.S_below (by (with_reducible repeat (first | apply Kd.S_alloc | apply Kd.S_drewN | apply Kd.S_drew)); exact HO_15.out) hb); have n3_ := Aside0.mk (Kd.R_below (Far.Ra HO_239001.out) hb); have n4_ := Aside0.mk (blk_below (g := gb238) (o := .cells #[.int .u64 t232, .slice Ao12 t233.length co12, .int .u32 t236] 45 (0, 0)) (Far.Ba BK238.out) hb); have n5_ := Aside0.mk (below_step (by repeat (first | (with_reducible first | exact HB.out | apply below_alloc | apply pw_below_drewN | apply below_drew1 | refine below_set ?_ GE238.out) | exact HB.out)) hb); clear HO_9 HO_12 HO_15 HO_239001 BK238 HB; have HO_9 := n0_; have HO_12 := n1_; have HO_15 := n2_; have HO_239001 := n3_; have BK238 := n4_; have HB := n5_; clear n0_ n1_ n2_ n3_ n4_ n5_; (try clear hb); (try clear hb2); (try clear hk); (try clear hi); obtain ⟨Ao67, co67, eo67⟩ := Kd.S_slice HO_15.out; subst eo67) | ((with_reducible refine gate_callee (f := 48) rfl ?_); refine goesL_ (some 66) rfl rfl Try.func48 (by kernel_rfl) rfl #[.slice Ao67 x15_2.length co67] rfl (by (try simp only [List.map_toArray, List.map_cons, List.map_nil]); first | done | rfl | (simp only [List.length_drop, List.length_take]; rfl)) ?_; (with_reducible refine (mani_Join.calls k2 _ _ x15_2 t254 true _ ?side1 ?side2 A51.out).mono ?_); (case side1 => repeat (first | exact (Kd.S_reads' HO_15.out).2.2 | (with_reducible refine Kd.C_alloc ?_ _) | (with_reducible refine Kd.C_drewN ?_ _) | (with_reducible refine Kd.C_drew ?_))); (case side2 => exact (Kd.S_reads' HO_15.out).2.1); rintro e w68 ⟨v256, rfl, ho0, hb⟩; refine ⟨_, rfl, ?_⟩; have n0_ := Aside0.mk (Kd.S_below (by (with_reducible repeat (first | apply Kd.S_alloc | apply Kd.S_drewN | apply Kd.S_drew)); exact HO_9.out) hb); have n1_ := Aside0.mk (Kd.R_below (Far.Ra HO_12.out) hb); have n2_ := Aside0.mk (Kd.S_elder' (by (with_reducible repeat (first | apply Kd.S_alloc | apply Kd.S_drewN | apply Kd.S_drew)); exact HO_15.out) (Kd.R_base ho0) hb); have n3_ := Aside0.mk (Kd.R_elder' (Far.Ra HO_239001.out) (Kd.R_base ho0) hb); have n4_ := Aside0.mk (Kd.R_lower (Kd.R_new' ho0 (Kd.R_lt (Far.Ra HO_239001.out))) (below_size (by repeat (first | (with_reducible first | exact HB.out | apply below_alloc | apply pw_below_drewN | apply below_drew1 | refine below_set ?_ GE238.out) | exact HB.out)))); have n5_ := Aside0.mk (blk_below (g := gb238) (o := .cells #[.int .u64 t232, .slice Ao12 t233.length co12, .int .u32 t236] 45 (0, 0)) (Far.Ba BK238.out) hb); have n6_ := Aside0.mk (below_step (by repeat (first | (with_reducible first | exact HB.out | apply below_alloc | apply pw_below_drewN | apply below_drew1 | refine below_set ?_ GE238.out) | exact HB.out)) hb); clear HO_9 HO_12 HO_15 HO_239001 BK238 HB; have HO_9 := n0_; have HO_12 := n1_; have HO_15 := n2_; have HO_239001 := n3_; have HO257 := n4_; have BK238 := n5_; have HB := n6_; clear n0_ n1_ n2_ n3_ n4_ n5_ n6_; (try clear hb); (try clear hb2); (try clear hk); (try clear hi); (try clear ho0); obtain ⟨Ao69, co69, eo69⟩ := Kd.R_slice HO257.out; subst eo69))
                          have n0_ := Aside0.mk (Kd.S_drew HO_9.out)
                          have n1_ := Aside0.mk (Kd.R_drew HO_12.out)
                          have n2_ := Aside0.mk (Kd.S_drew HO_15.out)
                          have n3_ := Aside0.mk (Kd.R_drew HO_239001.out)
                          have n4_ := Aside0.mk (Kd.R_drew HO257.out)
                          have n5_ := Aside0.mk (blk_drew BK238.out)
                          have n6_ := Aside0.mk (below_drew1 HB.out)
                          clear HO_9 HO_12 HO_15 HO_239001 HO257 BK238 HB
                          have HO_9 := n0_
                          have HO_12 := n1_
                          have HO_15 := n2_
                          have HO_239001 := n3_
                          have HO257 := n4_
                          have BK238 := n5_
                          have HB := n6_
                          clear n0_ n1_ n2_ n3_ n4_ n5_ n6_
                          refine start_ (n := 36) (S := fun w' => w'.cell? ⟨gb238, 0, none⟩ = some (.int .u64 t232) ∧ w'.cell? ⟨gb238, 1, none⟩ = some (.slice Ao12 t233.length co12) ∧ w'.cell? ⟨gb238, 2, none⟩ = some (.int .u32 t236)) (ds := []) #[false, false, false, false, false, false, false, false, false, false, false, false, false, false, false, false, false, false, false, false, false, false, false, false, false, false, false, false, false, false, false, false, false, false, false, false] (by kernel_rfl) rfl rfl ⟨(blk_cell BK238.out 0).trans rfl, (blk_cell BK238.out 1).trans rfl, (blk_cell BK238.out 2).trans rfl⟩ (fun hHeld => ?_); refine with_tabW scullerlaw12_ManiWhole.tab17 scullerlaw12_ManiWhole.bits17 (fun HT_ HW_ => ?_)
                          generalize w68.drew = w70 at HO_9 HO_12 HO_15 HO_239001 HO257 BK238 HB hHeld ⊢
                          refine one_ (i := 0) (N := some 69) #[true, false, false, false, false, false, false, false, false, false, false, false, false, false, false, false, false, false, false, false, false, false, false, false, false, false, false, false, false, false, false, false, false, false, false, false] rfl rfl (one_of HT_.out (by kernel_rfl)) (by decide) (fun K hK => ?_)
                          refine goes_ Try.func28 (by kernel_rfl) rfl #[] (by rfl) rfl rfl (by (try simp only [List.map_toArray, List.map_cons, List.map_nil]); first | done | rfl | (simp only [List.length_drop, List.length_take]; rfl)) ?_
                          with_reducible refine (scullerlaw12_known.calls k2  true _ A52.out).mono ?_
                          rintro e w71 ⟨rfl, hb⟩
                          refine ⟨_, rfl, ?_⟩
                          have n0_ := Aside0.mk (Kd.S_below (by (with_reducible repeat (first | apply Kd.S_alloc | apply Kd.S_drewN | apply Kd.S_drew)); exact HO_9.out) hb)
                          have n1_ := Aside0.mk (Kd.R_below (Far.Ra HO_12.out) hb)
                          have n2_ := Aside0.mk (Kd.S_below (by (with_reducible repeat (first | apply Kd.S_alloc | apply Kd.S_drewN | apply Kd.S_drew)); exact HO_15.out) hb)
                          have n3_ := Aside0.mk (Kd.R_below (Far.Ra HO_239001.out) hb)
                          have n4_ := Aside0.mk (Kd.R_below (Far.Ra HO257.out) hb)
                          have n5_ := Aside0.mk (blk_below (g := gb238) (o := .cells #[.int .u64 t232, .slice Ao12 t233.length co12, .int .u32 t236] 45 (0, 0)) (Far.Ba BK238.out) hb)
                          have n6_ := Aside0.mk (below_step (by repeat (first | (with_reducible first | exact HB.out | apply below_alloc | apply pw_below_drewN | apply below_drew1 | refine below_set ?_ GE238.out) | exact HB.out)) hb)
                          clear HO_9 HO_12 HO_15 HO_239001 HO257 BK238 HB
                          have HO_9 := n0_
                          have HO_12 := n1_
                          have HO_15 := n2_
                          have HO_239001 := n3_
                          have HO257 := n4_
                          have BK238 := n5_
                          have HB := n6_
                          clear n0_ n1_ n2_ n3_ n4_ n5_ n6_
                          (try clear hb)
                          (try clear hb2)
                          (try clear hk)
                          (try clear hi)
                          refine hK.out _ _ ⟨(blk_cell BK238.out 0).trans rfl, (blk_cell BK238.out 1).trans rfl, (blk_cell BK238.out 2).trans rfl⟩ (fun hHeld => ?_)
                          clear hK K
                          refine norm_ (a' := ?_) ?_ ?_
                          rotate_left
                          · show Act.put _ (some 69) _ = _
                            simp only [Act.put, List.setIfInBounds_toArray, List.set_cons_zero, List.set_cons_succ, i64_w, i32_w]
                            rfl
                          refine pure_ (i := 1) (N := some 70) (v := ?_) (a' := ?_) #[true, true, false, false, false, false, false, false, false, false, false, false, false, false, false, false, false, false, false, false, false, false, false, false, false, false, false, false, false, false, false, false, false, false, false, false] rfl rfl (any_of HT_.out (by kernel_rfl)) (fun _ _ _ h => h) (Or.inl ⟨by rfl, ?_⟩) ?_ ?_; rotate_left; (intro w'; go_simp; with_reducible rfl); rotate_left; (simp only [Act.put, List.setIfInBounds_toArray, List.set_cons_zero, List.set_cons_succ, i64_w, i32_w]; rfl)
                          refine pure_ (i := 2) (N := some 71) (v := ?_) (a' := ?_) #[true, true, true, false, false, false, false, false, false, false, false, false, false, false, false, false, false, false, false, false, false, false, false, false, false, false, false, false, false, false, false, false, false, false, false, false] rfl rfl (any_of HT_.out (by kernel_rfl)) (fun _ _ _ h => h) (Or.inl ⟨by rfl, ?_⟩) ?_ ?_; rotate_left; (intro w'; go_simp; with_reducible rfl); rotate_left; (simp only [Act.put, List.setIfInBounds_toArray, List.set_cons_zero, List.set_cons_succ, i64_w, i32_w]; rfl)
                          refine pure_ (i := 3) (N := some 72) (v := ?_) (a' := ?_) #[true, true, true, true, false, false, false, false, false, false, false, false, false, false, false, false, false, false, false, false, false, false, false, false, false, false, false, false, false, false, false, false, false, false, false, false] rfl rfl (any_of HT_.out (by kernel_rfl)) (fun _ _ _ h => h) (Or.inl ⟨by rfl, ?_⟩) ?_ ?_; rotate_left; (intro w'; go_simp; with_reducible rfl); rotate_left; (simp only [Act.put, List.setIfInBounds_toArray, List.set_cons_zero, List.set_cons_succ, i64_w, i32_w]; rfl)
                          refine pure_ (i := 4) (N := some 73) (v := ?_) (a' := ?_) #[true, true, true, true, true, false, false, false, false, false, false, false, false, false, false, false, false, false, false, false, false, false, false, false, false, false, false, false, false, false, false, false, false, false, false, false] rfl rfl (any_of HT_.out (by kernel_rfl)) (fun _ _ _ h => h) (Or.inl ⟨by rfl, ?_⟩) ?_ ?_; rotate_left; (intro w'; go_simp; with_reducible rfl); rotate_left; (simp only [Act.put, List.setIfInBounds_toArray, List.set_cons_zero, List.set_cons_succ, i64_w, i32_w]; rfl)
                          refine pure_ (i := 5) (N := some 74) (v := ?_) (a' := ?_) #[true, true, true, true, true, true, false, false, false, false, false, false, false, false, false, false, false, false, false, false, false, false, false, false, false, false, false, false, false, false, false, false, false, false, false, false] rfl rfl (any_of HT_.out (by kernel_rfl)) (fun _ _ _ h => h) (Or.inl ⟨by rfl, ?_⟩) ?_ ?_; rotate_left; (intro w'; go_simp; with_reducible rfl); rotate_left; (simp only [Act.put, List.setIfInBounds_toArray, List.set_cons_zero, List.set_cons_succ, i64_w, i32_w]; rfl)
                          refine pure_ (i := 6) (N := some 75) (v := ?_) (a' := ?_) #[true, true, true, true, true, true, true, false, false, false, false, false, false, false, false, false, false, false, false, false, false, false, false, false, false, false, false, false, false, false, false, false, false, false, false, false] rfl rfl (any_of HT_.out (by kernel_rfl)) (fun _ _ _ h => h) (Or.inl ⟨by rfl, ?_⟩) ?_ ?_; rotate_left; (intro w'; go_simp; with_reducible rfl); rotate_left; (simp only [Act.put, List.setIfInBounds_toArray, List.set_cons_zero, List.set_cons_succ, i64_w, i32_w]; rfl)
                          refine pure_ (i := 8) (N := some 77) (v := ?_) (a' := ?_) #[true, true, true, true, true, true, true, false, true, false, false, false, false, false, false, false, false, false, false, false, false, false, false, false, false, false, false, false, false, false, false, false, false, false, false, false] rfl rfl (any_of HT_.out (by kernel_rfl)) (fun _ _ _ h => h) (Or.inl ⟨by rfl, ?_⟩) ?_ ?_; rotate_left; (intro w'; go_simp; with_reducible rfl); rotate_left; (simp only [Act.put, List.setIfInBounds_toArray, List.set_cons_zero, List.set_cons_succ, i64_w, i32_w]; rfl)
                          refine join_ (σ := Value) 25 #[true, true, true, true, true, true, true, true, true, true, true, false, false, false, false, false, false, false, false, false, false, false, false, false, false, false, false, false, false, false, false, false, false, false, false, false] (fun s_ => [(76, .string (strOfNums x12_1)), (78, s_), (79, .string (strOfNums t259))]) (fun s_ w' => (w'.cell? ⟨gb238, 0, none⟩ = some (.int .u64 t232) ∧ w'.cell? ⟨gb238, 1, none⟩ = some (.slice Ao12 t233.length co12) ∧ w'.cell? ⟨gb238, 2, none⟩ = some (.int .u32 t236)) ∧ (Kd.R (Kd.int .i64) 3 w' w.heap.size (fun k_ => some k_ ≠ (.slice Ao12 t233.length co12 : Value).ownBlock) (.slice Ao69 t254.length co69) t254) ∧ (Kd.R (Kd.int .u8) 5 w' w.heap.size (fun k_ => some k_ ≠ (u12 : Value).ownBlock) s_ t259) ∧ (Kd.R (Kd.int .u8) 5 w' w.heap.size (fun k_ => some k_ ≠ (s_ : Value).ownBlock) u12 x12_1) ∧ (Kd.S (Kd.slice 3 (Kd.int .i64)) 42 w' w.heap.size (fun k_ => some k_ ≠ (.slice Ao69 t254.length co69 : Value).ownBlock ∧ some k_ ≠ (.slice Ao12 t233.length co12 : Value).ownBlock) (.slice Ao67 x15_2.length co67) x15_2) ∧ (Kd.R (Kd.int .i64) 3 w' w.heap.size (fun k_ => some k_ ≠ (.slice Ao69 t254.length co69 : Value).ownBlock) (.slice Ao12 t233.length co12) t233) ∧ (Kd.S (Kd.slice 38 (Kd.int .u64)) 50 w' w.heap.size (fun _ => True) (.slice Ao8 t229.length co8) t229) ∧ (w'.heap[gb238]? = some (.cells #[.int .u64 t232, .slice Ao12 t233.length co12, .int .u32 t236] 45 (0, 0))) ∧ (Below w.heap.size w w')) ?_ ?_
                          rotate_left
                          · intro hCont
                            refine two_ (i := 7) (j := 9) (Ni := some 76) (Nj := some 78) #[true, true, true, true, true, true, true, true, true, false, false, false, false, false, false, false, false, false, false, false, false, false, false, false, false, false, false, false, false, false, false, false, false, false, false, false] #[true, true, true, true, true, true, true, false, true, true, false, false, false, false, false, false, false, false, false, false, false, false, false, false, false, false, false, false, false, false, false, false, false, false, false, false] rfl rfl rfl rfl (two_of HT_.out (by kernel_rfl)) (by decide) (by decide) (fun K hK => ?_) (fun K hK => ?_)
                            · skip
                              have hcv72 := own_string (P := Try.prog) Try.underlying22 Try.underlying5 Try.underlying9 (Kd.own_of_R HO_12.out)
                              refine value_ (w1 := ?_) (v := ?_) (by rfl) rfl ?_ ?_
                              rotate_left 2
                              · go_simp
                                constructor
                                · rfl
                                · rfl
                              clear hcv72
                              refine hK.out _ _ ⟨(blk_cell BK238.out 0).trans rfl, (blk_cell BK238.out 1).trans rfl, (blk_cell BK238.out 2).trans rfl⟩ (fun hHeld => ?_)
                              clear hK K
                              refine norm_ (a' := ?_) ?_ ?_
                              rotate_left
                              · show Act.put _ (some 76) _ = _
                                simp only [Act.put, List.setIfInBounds_toArray, List.set_cons_zero, List.set_cons_succ, i64_w, i32_w]
                                rfl
                              refine one_ (i := 9) (N := some 78) #[true, true, true, true, true, true, true, true, true, true, false, false, false, false, false, false, false, false, false, false, false, false, false, false, false, false, false, false, false, false, false, false, false, false, false, false] rfl rfl (one_of HT_.out (by kernel_rfl)) (by decide) (fun K hK => ?_)
                              refine goes_ Try.func60 (by kernel_rfl) rfl #[.slice Ao8 t229.length co8] (by rfl) rfl rfl (by (try simp only [List.map_toArray, List.map_cons, List.map_nil]); first | done | rfl | (simp only [List.length_drop, List.length_take]; rfl)) ?_
                              with_reducible refine (scullerref07_Bytes.calls k2 _ _ t229 t259 _ ?side1 ?side2 A55.out).mono ?_
                              (case side1 => repeat (first | exact (Kd.S_reads' HO_9.out).2.2 | (with_reducible refine Kd.C_alloc ?_ _) | (with_reducible refine Kd.C_drewN ?_ _) | (with_reducible refine Kd.C_drew ?_)))
                              (case side2 => exact (Kd.S_reads' HO_9.out).2.1)
                              rintro e w73 ⟨v260, rfl, ho0, hb⟩
                              refine ⟨_, rfl, ?_⟩
                              have n0_ := Aside0.mk (Kd.S_below (by (with_reducible repeat (first | apply Kd.S_alloc | apply Kd.S_drewN | apply Kd.S_drew)); exact HO_9.out) hb)
                              have n1_ := Aside0.mk (Kd.R_elder' (Far.Ra HO_12.out) (Kd.R_base ho0) hb)
                              have n2_ := Aside0.mk (Kd.S_below (by (with_reducible repeat (first | apply Kd.S_alloc | apply Kd.S_drewN | apply Kd.S_drew)); exact HO_15.out) hb)
                              have n3_ := Aside0.mk (Kd.R_below (Far.Ra HO_239001.out) hb)
                              have n4_ := Aside0.mk (Kd.R_below (Far.Ra HO257.out) hb)
                              have n5_ := Aside0.mk (Kd.R_lower (Kd.R_new' ho0 (Kd.R_lt (Far.Ra HO_12.out))) (below_size (by repeat (first | (with_reducible first | exact HB.out | apply below_alloc | apply pw_below_drewN | apply below_drew1 | refine below_set ?_ GE238.out) | exact HB.out))))
                              have n6_ := Aside0.mk (blk_below (g := gb238) (o := .cells #[.int .u64 t232, .slice Ao12 t233.length co12, .int .u32 t236] 45 (0, 0)) (Far.Ba BK238.out) hb)
                              have n7_ := Aside0.mk (below_step (by repeat (first | (with_reducible first | exact HB.out | apply below_alloc | apply pw_below_drewN | apply below_drew1 | refine below_set ?_ GE238.out) | exact HB.out)) hb)
                              clear HO_9 HO_12 HO_15 HO_239001 HO257 BK238 HB
                              have HO_9 := n0_
                              have HO_12 := n1_
                              have HO_15 := n2_
                              have HO_239001 := n3_
                              have HO257 := n4_
                              have HO261 := n5_
                              have BK238 := n6_
                              have HB := n7_
                              clear n0_ n1_ n2_ n3_ n4_ n5_ n6_ n7_
                              (try clear hb)
                              (try clear hb2)
                              (try clear hk)
                              (try clear hi)
                              (try clear ho0)
                              refine hK.out _ _ ⟨(blk_cell BK238.out 0).trans rfl, (blk_cell BK238.out 1).trans rfl, (blk_cell BK238.out 2).trans rfl⟩ (fun hHeld => ?_)
                              clear hK K
                              refine norm_ (a' := ?_) ?_ ?_
                              rotate_left
                              · show Act.put _ (some 78) _ = _
                                simp only [Act.put, List.setIfInBounds_toArray, List.set_cons_zero, List.set_cons_succ, i64_w, i32_w]
                                rfl
                              refine one_ (i := 10) (N := some 79) #[true, true, true, true, true, true, true, true, true, true, true, false, false, false, false, false, false, false, false, false, false, false, false, false, false, false, false, false, false, false, false, false, false, false, false, false] rfl rfl (one_of HT_.out (by kernel_rfl)) (by decide) (fun K hK => ?_)
                              have hcv74 := own_string (P := Try.prog) Try.underlying22 Try.underlying5 Try.underlying9 (Kd.own_of_R HO261.out)
                              refine value_ (w1 := ?_) (v := ?_) (by rfl) rfl ?_ ?_
                              rotate_left 2
                              · go_simp
                                constructor
                                · rfl
                                · rfl
                              clear hcv74
                              refine hK.out _ _ ⟨(blk_cell BK238.out 0).trans rfl, (blk_cell BK238.out 1).trans rfl, (blk_cell BK238.out 2).trans rfl⟩ (fun hHeld => ?_)
                              clear hK K
                              refine norm_ (a' := ?_) ?_ ?_
                              rotate_left
                              · show Act.put _ (some 79) _ = _
                                simp only [Act.put, List.setIfInBounds_toArray, List.set_cons_zero, List.set_cons_succ, i64_w, i32_w]
                                rfl
                              exact norm_ (by simp only [putAll, Act.put, List.setIfInBounds_toArray, List.set_cons_zero, List.set_cons_succ]) (hCont (v260) _ ⟨hHeld, (Far.Ra (Kd.R_mono HO257.out (fun _ hk => hk.2))), (Far.Ra (Kd.R_mono HO261.out (fun _ hk => hk.2))), (Far.Ra (Kd.R_mono HO_12.out (fun _ hk => hk.2))), (by (with_reducible repeat (first | apply Kd.S_alloc | apply Kd.S_drewN | apply Kd.S_drew)); exact Kd.S_mono HO_15.out (fun _ hk => ⟨hk.2, hk.1⟩)), (Far.Ra (Kd.R_mono HO_239001.out (fun _ hk => hk.2))), (by (with_reducible repeat (first | apply Kd.S_alloc | apply Kd.S_drewN | apply Kd.S_drew)); exact HO_9.out), (Far.Ba BK238.out), (by repeat (first | (with_reducible first | exact HB.out | apply below_alloc | apply pw_below_drewN | apply below_drew1 | refine below_set ?_ GE238.out) | exact HB.out))⟩)
                            · skip
                              refine goes_ Try.func60 (by kernel_rfl) rfl #[.slice Ao8 t229.length co8] (by rfl) rfl rfl (by (try simp only [List.map_toArray, List.map_cons, List.map_nil]); first | done | rfl | (simp only [List.length_drop, List.length_take]; rfl)) ?_
                              with_reducible refine (scullerref07_Bytes.calls k2 _ _ t229 t259 _ ?side1 ?side2 A55.out).mono ?_
                              (case side1 => repeat (first | exact (Kd.S_reads' HO_9.out).2.2 | (with_reducible refine Kd.C_alloc ?_ _) | (with_reducible refine Kd.C_drewN ?_ _) | (with_reducible refine Kd.C_drew ?_)))
                              (case side2 => exact (Kd.S_reads' HO_9.out).2.1)
                              rintro e w72 ⟨v260, rfl, ho0, hb⟩
                              refine ⟨_, rfl, ?_⟩
                              have n0_ := Aside0.mk (Kd.S_below (by (with_reducible repeat (first | apply Kd.S_alloc | apply Kd.S_drewN | apply Kd.S_drew)); exact HO_9.out) hb)
                              have n1_ := Aside0.mk (Kd.R_elder' (Far.Ra HO_12.out) (Kd.R_base ho0) hb)
                              have n2_ := Aside0.mk (Kd.S_below (by (with_reducible repeat (first | apply Kd.S_alloc | apply Kd.S_drewN | apply Kd.S_drew)); exact HO_15.out) hb)
                              have n3_ := Aside0.mk (Kd.R_below (Far.Ra HO_239001.out) hb)
                              have n4_ := Aside0.mk (Kd.R_below (Far.Ra HO257.out) hb)
                              have n5_ := Aside0.mk (Kd.R_lower (Kd.R_new' ho0 (Kd.R_lt (Far.Ra HO_12.out))) (below_size (by repeat (first | (with_reducible first | exact HB.out | apply below_alloc | apply pw_below_drewN | apply below_drew1 | refine below_set ?_ GE238.out) | exact HB.out))))
                              have n6_ := Aside0.mk (blk_below (g := gb238) (o := .cells #[.int .u64 t232, .slice Ao12 t233.length co12, .int .u32 t236] 45 (0, 0)) (Far.Ba BK238.out) hb)
                              have n7_ := Aside0.mk (below_step (by repeat (first | (with_reducible first | exact HB.out | apply below_alloc | apply pw_below_drewN | apply below_drew1 | refine below_set ?_ GE238.out) | exact HB.out)) hb)
                              clear HO_9 HO_12 HO_15 HO_239001 HO257 BK238 HB
                              have HO_9 := n0_
                              have HO_12 := n1_
                              have HO_15 := n2_
                              have HO_239001 := n3_
                              have HO257 := n4_
                              have HO261 := n5_
                              have BK238 := n6_
                              have HB := n7_
                              clear n0_ n1_ n2_ n3_ n4_ n5_ n6_ n7_
                              (try clear hb)
                              (try clear hb2)
                              (try clear hk)
                              (try clear hi)
                              (try clear ho0)
                              refine hK.out _ _ ⟨(blk_cell BK238.out 0).trans rfl, (blk_cell BK238.out 1).trans rfl, (blk_cell BK238.out 2).trans rfl⟩ (fun hHeld => ?_)
                              clear hK K
                              refine norm_ (a' := ?_) ?_ ?_
                              rotate_left
                              · show Act.put _ (some 78) _ = _
                                simp only [Act.put, List.setIfInBounds_toArray, List.set_cons_zero, List.set_cons_succ, i64_w, i32_w]
                                rfl
                              refine two_ (i := 7) (j := 10) (Ni := some 76) (Nj := some 79) #[true, true, true, true, true, true, true, true, true, true, false, false, false, false, false, false, false, false, false, false, false, false, false, false, false, false, false, false, false, false, false, false, false, false, false, false] #[true, true, true, true, true, true, true, false, true, true, true, false, false, false, false, false, false, false, false, false, false, false, false, false, false, false, false, false, false, false, false, false, false, false, false, false] rfl rfl rfl rfl (two_of HT_.out (by kernel_rfl)) (by decide) (by decide) (fun K hK => ?_) (fun K hK => ?_)
                              · skip
                                have hcv73 := own_string (P := Try.prog) Try.underlying22 Try.underlying5 Try.underlying9 (Kd.own_of_R HO_12.out)
                                refine value_ (w1 := ?_) (v := ?_) (by rfl) rfl ?_ ?_
                                rotate_left 2
                                · go_simp
                                  constructor
                                  · rfl
                                  · rfl
                                clear hcv73
                                refine hK.out _ _ ⟨(blk_cell BK238.out 0).trans rfl, (blk_cell BK238.out 1).trans rfl, (blk_cell BK238.out 2).trans rfl⟩ (fun hHeld => ?_)
                                clear hK K
                                refine norm_ (a' := ?_) ?_ ?_
                                rotate_left
                                · show Act.put _ (some 76) _ = _
                                  simp only [Act.put, List.setIfInBounds_toArray, List.set_cons_zero, List.set_cons_succ, i64_w, i32_w]
                                  rfl
                                refine one_ (i := 10) (N := some 79) #[true, true, true, true, true, true, true, true, true, true, true, false, false, false, false, false, false, false, false, false, false, false, false, false, false, false, false, false, false, false, false, false, false, false, false, false] rfl rfl (one_of HT_.out (by kernel_rfl)) (by decide) (fun K hK => ?_)
                                have hcv74 := own_string (P := Try.prog) Try.underlying22 Try.underlying5 Try.underlying9 (Kd.own_of_R HO261.out)
                                refine value_ (w1 := ?_) (v := ?_) (by rfl) rfl ?_ ?_
                                rotate_left 2
                                · go_simp
                                  constructor
                                  · rfl
                                  · rfl
                                clear hcv74
                                refine hK.out _ _ ⟨(blk_cell BK238.out 0).trans rfl, (blk_cell BK238.out 1).trans rfl, (blk_cell BK238.out 2).trans rfl⟩ (fun hHeld => ?_)
                                clear hK K
                                refine norm_ (a' := ?_) ?_ ?_
                                rotate_left
                                · show Act.put _ (some 79) _ = _
                                  simp only [Act.put, List.setIfInBounds_toArray, List.set_cons_zero, List.set_cons_succ, i64_w, i32_w]
                                  rfl
                                exact norm_ (by simp only [putAll, Act.put, List.setIfInBounds_toArray, List.set_cons_zero, List.set_cons_succ]) (hCont (v260) _ ⟨hHeld, (Far.Ra (Kd.R_mono HO257.out (fun _ hk => hk.2))), (Far.Ra (Kd.R_mono HO261.out (fun _ hk => hk.2))), (Far.Ra (Kd.R_mono HO_12.out (fun _ hk => hk.2))), (by (with_reducible repeat (first | apply Kd.S_alloc | apply Kd.S_drewN | apply Kd.S_drew)); exact Kd.S_mono HO_15.out (fun _ hk => ⟨hk.2, hk.1⟩)), (Far.Ra (Kd.R_mono HO_239001.out (fun _ hk => hk.2))), (by (with_reducible repeat (first | apply Kd.S_alloc | apply Kd.S_drewN | apply Kd.S_drew)); exact HO_9.out), (Far.Ba BK238.out), (by repeat (first | (with_reducible first | exact HB.out | apply below_alloc | apply pw_below_drewN | apply below_drew1 | refine below_set ?_ GE238.out) | exact HB.out))⟩)
                              · skip
                                have hcv73 := own_string (P := Try.prog) Try.underlying22 Try.underlying5 Try.underlying9 (Kd.own_of_R HO261.out)
                                refine value_ (w1 := ?_) (v := ?_) (by rfl) rfl ?_ ?_
                                rotate_left 2
                                · go_simp
                                  constructor
                                  · rfl
                                  · rfl
                                clear hcv73
                                refine hK.out _ _ ⟨(blk_cell BK238.out 0).trans rfl, (blk_cell BK238.out 1).trans rfl, (blk_cell BK238.out 2).trans rfl⟩ (fun hHeld => ?_)
                                clear hK K
                                refine norm_ (a' := ?_) ?_ ?_
                                rotate_left
                                · show Act.put _ (some 79) _ = _
                                  simp only [Act.put, List.setIfInBounds_toArray, List.set_cons_zero, List.set_cons_succ, i64_w, i32_w]
                                  rfl
                                refine one_ (i := 7) (N := some 76) #[true, true, true, true, true, true, true, true, true, true, true, false, false, false, false, false, false, false, false, false, false, false, false, false, false, false, false, false, false, false, false, false, false, false, false, false] rfl rfl (one_of HT_.out (by kernel_rfl)) (by decide) (fun K hK => ?_)
                                have hcv74 := own_string (P := Try.prog) Try.underlying22 Try.underlying5 Try.underlying9 (Kd.own_of_R HO_12.out)
                                refine value_ (w1 := ?_) (v := ?_) (by rfl) rfl ?_ ?_
                                rotate_left 2
                                · go_simp
                                  constructor
                                  · rfl
                                  · rfl
                                clear hcv74
                                refine hK.out _ _ ⟨(blk_cell BK238.out 0).trans rfl, (blk_cell BK238.out 1).trans rfl, (blk_cell BK238.out 2).trans rfl⟩ (fun hHeld => ?_)
                                clear hK K
                                refine norm_ (a' := ?_) ?_ ?_
                                rotate_left
                                · show Act.put _ (some 76) _ = _
                                  simp only [Act.put, List.setIfInBounds_toArray, List.set_cons_zero, List.set_cons_succ, i64_w, i32_w]
                                  rfl
                                exact norm_ (by simp only [putAll, Act.put, List.setIfInBounds_toArray, List.set_cons_zero, List.set_cons_succ]) (hCont (v260) _ ⟨hHeld, (Far.Ra (Kd.R_mono HO257.out (fun _ hk => hk.2))), (Far.Ra (Kd.R_mono HO261.out (fun _ hk => hk.2))), (Far.Ra (Kd.R_mono HO_12.out (fun _ hk => hk.2))), (by (with_reducible repeat (first | apply Kd.S_alloc | apply Kd.S_drewN | apply Kd.S_drew)); exact Kd.S_mono HO_15.out (fun _ hk => ⟨hk.2, hk.1⟩)), (Far.Ra (Kd.R_mono HO_239001.out (fun _ hk => hk.2))), (by (with_reducible repeat (first | apply Kd.S_alloc | apply Kd.S_drewN | apply Kd.S_drew)); exact HO_9.out), (Far.Ba BK238.out), (by repeat (first | (with_reducible first | exact HB.out | apply below_alloc | apply pw_below_drewN | apply below_drew1 | refine below_set ?_ GE238.out) | exact HB.out))⟩)
                          rintro v260 w75 ⟨hS_, h0_, h1_, h2_, h3_, h4_, h5_, h6_, h7_⟩
                          have n0_ : Aside0 (Kd.R (Kd.int .i64) 3 w75 w.heap.size (fun k_ => some k_ ≠ (.slice Ao12 t233.length co12 : Value).ownBlock) (.slice Ao69 t254.length co69) t254) := ⟨h0_⟩
                          have n1_ : Aside0 (Kd.R (Kd.int .u8) 5 w75 w.heap.size (fun k_ => some k_ ≠ (u12 : Value).ownBlock) v260 t259) := ⟨h1_⟩
                          have n2_ : Aside0 (Kd.R (Kd.int .u8) 5 w75 w.heap.size (fun k_ => some k_ ≠ (v260 : Value).ownBlock) u12 x12_1) := ⟨h2_⟩
                          have n3_ : Aside0 (Kd.S (Kd.slice 3 (Kd.int .i64)) 42 w75 w.heap.size (fun k_ => some k_ ≠ (.slice Ao69 t254.length co69 : Value).ownBlock ∧ some k_ ≠ (.slice Ao12 t233.length co12 : Value).ownBlock) (.slice Ao67 x15_2.length co67) x15_2) := ⟨h3_⟩
                          have n4_ : Aside0 (Kd.R (Kd.int .i64) 3 w75 w.heap.size (fun k_ => some k_ ≠ (.slice Ao69 t254.length co69 : Value).ownBlock) (.slice Ao12 t233.length co12) t233) := ⟨h4_⟩
                          have n5_ : Aside0 (Kd.S (Kd.slice 38 (Kd.int .u64)) 50 w75 w.heap.size (fun _ => True) (.slice Ao8 t229.length co8) t229) := ⟨h5_⟩
                          have n6_ : Aside0 (w75.heap[gb238]? = some (.cells #[.int .u64 t232, .slice Ao12 t233.length co12, .int .u32 t236] 45 (0, 0))) := ⟨h6_⟩
                          have n7_ : Aside0 (Below w.heap.size w w75) := ⟨h7_⟩
                          clear HO_9 HO_12 HO_15 HO_239001 HO257 BK238 HB h0_ h1_ h2_ h3_ h4_ h5_ h6_ h7_
                          have HO257 := n0_
                          have HO261 := n1_
                          have HO_12 := n2_
                          have HO_15 := n3_
                          have HO_239001 := n4_
                          have HO_9 := n5_
                          have BK238 := n6_
                          have HB := n7_
                          clear n0_ n1_ n2_ n3_ n4_ n5_ n6_ n7_
                          have hHeld : w75.cell? ⟨gb238, 0, none⟩ = some (.int .u64 t232) ∧ w75.cell? ⟨gb238, 1, none⟩ = some (.slice Ao12 t233.length co12) ∧ w75.cell? ⟨gb238, 2, none⟩ = some (.int .u32 t236) := hS_
                          refine norm_ (a' := ?_) ?_ ?_
                          rotate_left
                          · simp only [putAll, Act.put, List.setIfInBounds_toArray, List.set_cons_zero, List.set_cons_succ]
                            rfl
                          refine pure_ (i := 11) (N := some 80) (v := ?_) (a' := ?_) #[true, true, true, true, true, true, true, true, true, true, true, true, false, false, false, false, false, false, false, false, false, false, false, false, false, false, false, false, false, false, false, false, false, false, false, false] rfl rfl (any_of HT_.out (by kernel_rfl)) (fun _ _ _ h => h) (Or.inl ⟨by rfl, ?_⟩) ?_ ?_; rotate_left; (intro w'; go_simp; with_reducible rfl); rotate_left; (simp only [Act.put, List.setIfInBounds_toArray, List.set_cons_zero, List.set_cons_succ, i64_w, i32_w]; rfl)
                          refine pure_ (i := 12) (N := some 81) (v := ?_) (a' := ?_) #[true, true, true, true, true, true, true, true, true, true, true, true, true, false, false, false, false, false, false, false, false, false, false, false, false, false, false, false, false, false, false, false, false, false, false, false] rfl rfl (any_of HT_.out (by kernel_rfl)) (fun _ _ _ h => h) (Or.inl ⟨by rfl, ?_⟩) ?_ ?_; rotate_left; (intro w'; go_simp; with_reducible rfl); rotate_left; (simp only [Act.put, List.setIfInBounds_toArray, List.set_cons_zero, List.set_cons_succ, i64_w, i32_w]; rfl)
                          refine pure_ (i := 13) (N := some 82) (v := ?_) (a' := ?_) #[true, true, true, true, true, true, true, true, true, true, true, true, true, true, false, false, false, false, false, false, false, false, false, false, false, false, false, false, false, false, false, false, false, false, false, false] rfl rfl (any_of HT_.out (by kernel_rfl)) (fun _ _ _ h => h) (Or.inl ⟨by rfl, ?_⟩) ?_ ?_; rotate_left; (intro w'; go_simp; with_reducible rfl); rotate_left; (simp only [Act.put, List.setIfInBounds_toArray, List.set_cons_zero, List.set_cons_succ, i64_w, i32_w]; rfl)
                          refine pure_ (i := 14) (N := some 83) (v := ?_) (a' := ?_) #[true, true, true, true, true, true, true, true, true, true, true, true, true, true, true, false, false, false, false, false, false, false, false, false, false, false, false, false, false, false, false, false, false, false, false, false] rfl rfl (any_of HT_.out (by kernel_rfl)) (fun _ _ _ h => h) (Or.inl ⟨by rfl, ?_⟩) ?_ ?_; rotate_left; (intro w'; go_simp; with_reducible rfl); rotate_left; (simp only [Act.put, List.setIfInBounds_toArray, List.set_cons_zero, List.set_cons_succ, i64_w, i32_w]; rfl)
                          refine pure_ (i := 15) (N := some 84) (v := ?_) (a' := ?_) #[true, true, true, true, true, true, true, true, true, true, true, true, true, true, true, true, false, false, false, false, false, false, false, false, false, false, false, false, false, false, false, false, false, false, false, false] rfl rfl (any_of HT_.out (by kernel_rfl)) (fun _ _ _ h => h) (Or.inl ⟨by rfl, ?_⟩) ?_ ?_; rotate_left; (intro w'; go_simp; with_reducible rfl); rotate_left; (simp only [Act.put, List.setIfInBounds_toArray, List.set_cons_zero, List.set_cons_succ, i64_w, i32_w]; rfl)
                          refine pure_ (i := 16) (N := some 85) (v := ?_) (a' := ?_) #[true, true, true, true, true, true, true, true, true, true, true, true, true, true, true, true, true, false, false, false, false, false, false, false, false, false, false, false, false, false, false, false, false, false, false, false] rfl rfl (any_of HT_.out (by kernel_rfl)) (fun _ _ _ h => h) (Or.inl ⟨by rfl, ?_⟩) ?_ ?_; rotate_left; (intro w'; go_simp; with_reducible rfl); rotate_left; (simp only [Act.put, List.setIfInBounds_toArray, List.set_cons_zero, List.set_cons_succ, i64_w, i32_w]; rfl)
                          refine pure_ (i := 17) (N := some 86) (v := ?_) (a' := ?_) #[true, true, true, true, true, true, true, true, true, true, true, true, true, true, true, true, true, true, false, false, false, false, false, false, false, false, false, false, false, false, false, false, false, false, false, false] rfl rfl (any_of HT_.out (by kernel_rfl)) (fun _ _ _ h => h) (Or.inl ⟨by rfl, ?_⟩) ?_ ?_; rotate_left; (intro w'; go_simp; with_reducible rfl); rotate_left; (simp only [Act.put, List.setIfInBounds_toArray, List.set_cons_zero, List.set_cons_succ, i64_w, i32_w]; rfl)
                          refine pure_ (i := 18) (N := some 87) (v := ?_) (a' := ?_) #[true, true, true, true, true, true, true, true, true, true, true, true, true, true, true, true, true, true, true, false, false, false, false, false, false, false, false, false, false, false, false, false, false, false, false, false] rfl rfl (any_of HT_.out (by kernel_rfl)) (fun _ _ _ h => h) (Or.inl ⟨by rfl, ?_⟩) ?_ ?_; rotate_left; (intro w'; go_simp; with_reducible rfl); rotate_left; (simp only [Act.put, List.setIfInBounds_toArray, List.set_cons_zero, List.set_cons_succ, i64_w, i32_w]; rfl)
                          refine one_ (i := 19) (N := some 88) #[true, true, true, true, true, true, true, true, true, true, true, true, true, true, true, true, true, true, true, true, false, false, false, false, false, false, false, false, false, false, false, false, false, false, false, false] rfl rfl (one_of HT_.out (by kernel_rfl)) (by decide) (fun K hK => ?_)
                          refine goes_ Try.func62 (by kernel_rfl) rfl #[.slice Ao8 t229.length co8] (by rfl) rfl rfl (by (try simp only [List.map_toArray, List.map_cons, List.map_nil]); first | done | rfl | (simp only [List.length_drop, List.length_take]; rfl)) ?_
                          with_reducible refine (scullerref07_Sizes.calls k2 _ _ t229 t262 _ ?side1 ?side2 A58.out).mono ?_
                          (case side1 => repeat (first | exact (Kd.S_reads' HO_9.out).2.2 | (with_reducible refine Kd.C_alloc ?_ _) | (with_reducible refine Kd.C_drewN ?_ _) | (with_reducible refine Kd.C_drew ?_)))
                          (case side2 => exact (Kd.S_reads' HO_9.out).2.1)
                          rintro e w76 ⟨v263, rfl, ho0, hb⟩
                          refine ⟨_, rfl, ?_⟩
                          have n0_ := Aside0.mk (Kd.S_below (by (with_reducible repeat (first | apply Kd.S_alloc | apply Kd.S_drewN | apply Kd.S_drew)); exact HO_9.out) hb)
                          have n1_ := Aside0.mk (Kd.R_below (Far.Ra HO_12.out) hb)
                          have n2_ := Aside0.mk (Kd.S_elder' (by (with_reducible repeat (first | apply Kd.S_alloc | apply Kd.S_drewN | apply Kd.S_drew)); exact HO_15.out) (Kd.R_base ho0) hb)
                          have n3_ := Aside0.mk (Kd.R_elder' (Far.Ra HO_239001.out) (Kd.R_base ho0) hb)
                          have n4_ := Aside0.mk (Kd.R_elder' (Far.Ra HO257.out) (Kd.R_base ho0) hb)
                          have n5_ := Aside0.mk (Kd.R_below (Far.Ra HO261.out) hb)
                          have n6_ := Aside0.mk (Kd.R_lower (Kd.R_new' (Kd.R_new' ho0 (Kd.R_lt (Far.Ra HO_239001.out))) (Kd.R_lt (Far.Ra HO257.out))) (below_size (by repeat (first | (with_reducible first | exact HB.out | apply below_alloc | apply pw_below_drewN | apply below_drew1 | refine below_set ?_ GE238.out) | exact HB.out))))
                          have n7_ := Aside0.mk (blk_below (g := gb238) (o := .cells #[.int .u64 t232, .slice Ao12 t233.length co12, .int .u32 t236] 45 (0, 0)) (Far.Ba BK238.out) hb)
                          have n8_ := Aside0.mk (below_step (by repeat (first | (with_reducible first | exact HB.out | apply below_alloc | apply pw_below_drewN | apply below_drew1 | refine below_set ?_ GE238.out) | exact HB.out)) hb)
                          clear HO_9 HO_12 HO_15 HO_239001 HO257 HO261 BK238 HB
                          have HO_9 := n0_
                          have HO_12 := n1_
                          have HO_15 := n2_
                          have HO_239001 := n3_
                          have HO257 := n4_
                          have HO261 := n5_
                          have HO264 := n6_
                          have BK238 := n7_
                          have HB := n8_
                          clear n0_ n1_ n2_ n3_ n4_ n5_ n6_ n7_ n8_
                          (try clear hb)
                          (try clear hb2)
                          (try clear hk)
                          (try clear hi)
                          (try clear ho0)
                          obtain ⟨Ao77, co77, eo77⟩ := Kd.R_slice HO264.out
                          (first | subst eo77 | (injection eo77 with f1_ f2_ f3_; have f4_ := f1_.symm; have f5_ := f3_.symm; clear f1_ f2_ f3_; subst f4_; subst f5_))
                          refine hK.out _ _ ⟨(blk_cell BK238.out 0).trans rfl, (blk_cell BK238.out 1).trans rfl, (blk_cell BK238.out 2).trans rfl⟩ (fun hHeld => ?_)
                          clear hK K
                          refine norm_ (a' := ?_) ?_ ?_
                          rotate_left
                          · show Act.put _ (some 88) _ = _
                            simp only [Act.put, List.setIfInBounds_toArray, List.set_cons_zero, List.set_cons_succ, i64_w, i32_w]
                            rfl
                          refine one_ (i := 20) (N := some 89) #[true, true, true, true, true, true, true, true, true, true, true, true, true, true, true, true, true, true, true, true, true, false, false, false, false, false, false, false, false, false, false, false, false, false, false, false] rfl rfl (one_of HT_.out (by kernel_rfl)) (by decide) (fun K hK => ?_)
                          refine goes_ Try.func61 (by kernel_rfl) rfl #[.slice Ao69 t254.length co69, .slice Ao77 t262.length co77] (by rfl) rfl rfl (by (try simp only [List.map_toArray, List.map_cons, List.map_nil]); first | done | rfl | (simp only [List.length_drop, List.length_take]; rfl)) ?_
                          with_reducible refine (scullerref07_SameInts.calls k2 _ _ t254 _ _ t262 true _ ?side1 ?side2 ?side3 ?side4 A59.out).mono ?_
                          (case side1 => repeat (first | exact (Kd.R_reads' HO257.out).2.2 | (with_reducible refine Kd.C_alloc ?_ _) | (with_reducible refine Kd.C_drewN ?_ _) | (with_reducible refine Kd.C_drew ?_)))
                          (case side2 => exact (Kd.R_reads' HO257.out).2.1)
                          (case side3 => repeat (first | exact (Kd.R_reads' HO264.out).2.2 | (with_reducible refine Kd.C_alloc ?_ _) | (with_reducible refine Kd.C_drewN ?_ _) | (with_reducible refine Kd.C_drew ?_)))
                          (case side4 => exact (Kd.R_reads' HO264.out).2.1)
                          rintro e w' ⟨rfl, ⟨nd, rfl⟩⟩
                          refine ⟨_, rfl, ?_⟩
                          refine hK.out _ _ ⟨(blk_cell BK238.out 0).trans rfl, (blk_cell BK238.out 1).trans rfl, (blk_cell BK238.out 2).trans rfl⟩ (fun hHeld => ?_)
                          clear hK K
                          refine norm_ (a' := ?_) ?_ ?_
                          rotate_left
                          · show Act.put _ (some 89) _ = _
                            simp only [Act.put, List.setIfInBounds_toArray, List.set_cons_zero, List.set_cons_succ, i64_w, i32_w]
                            rfl
                          refine pure_ (i := 21) (N := some 90) (v := ?_) (a' := ?_) #[true, true, true, true, true, true, true, true, true, true, true, true, true, true, true, true, true, true, true, true, true, true, false, false, false, false, false, false, false, false, false, false, false, false, false, false] rfl rfl (any_of HT_.out (by kernel_rfl)) (fun _ _ _ h => h) (Or.inl ⟨by rfl, ?_⟩) ?_ ?_; rotate_left; (intro w'; go_simp; with_reducible rfl); rotate_left; (simp only [Act.put, List.setIfInBounds_toArray, List.set_cons_zero, List.set_cons_succ, i64_w, i32_w]; rfl)
                          refine pure_ (i := 22) (N := some 91) (v := ?_) (a' := ?_) #[true, true, true, true, true, true, true, true, true, true, true, true, true, true, true, true, true, true, true, true, true, true, true, false, false, false, false, false, false, false, false, false, false, false, false, false] rfl rfl (any_of HT_.out (by kernel_rfl)) (fun _ _ _ h => h) (Or.inl ⟨by rfl, ?_⟩) ?_ ?_; rotate_left; (intro w'; go_simp; with_reducible rfl); rotate_left; (simp only [Act.put, List.setIfInBounds_toArray, List.set_cons_zero, List.set_cons_succ, i64_w, i32_w]; rfl)
                          refine pure_ (i := 23) (N := some 92) (v := ?_) (a' := ?_) #[true, true, true, true, true, true, true, true, true, true, true, true, true, true, true, true, true, true, true, true, true, true, true, true, false, false, false, false, false, false, false, false, false, false, false, false] rfl rfl (any_of HT_.out (by kernel_rfl)) (fun _ _ _ h => h) (Or.inl ⟨by rfl, ?_⟩) ?_ ?_; rotate_left; (intro w'; go_simp; with_reducible rfl); rotate_left; (simp only [Act.put, List.setIfInBounds_toArray, List.set_cons_zero, List.set_cons_succ, i64_w, i32_w]; rfl)
                          refine take_ (i := 24) (N := some 93) (v := ?_) (a' := ?_) #[true, true, true, true, true, true, true, true, true, true, true, true, true, true, true, true, true, true, true, true, true, true, true, true, true, false, false, false, false, false, false, false, false, false, false, false] rfl rfl (take_ofW HT_.out HW_.out (by kernel_rfl)) (fun _ _ _ h => h) (Or.inl ⟨by rfl, ?_⟩) hHeld ?_ ?_; rotate_left; (rintro w' ⟨s0, s1, s2⟩; go_simp; with_reducible rfl); rotate_left; (simp only [Act.put, List.setIfInBounds_toArray, List.set_cons_zero, List.set_cons_succ, i64_w, i32_w]; rfl)
                          refine one_ (i := 25) (N := some 94) #[true, true, true, true, true, true, true, true, true, true, true, true, true, true, true, true, true, true, true, true, true, true, true, true, true, true, false, false, false, false, false, false, false, false, false, false] rfl rfl (one_of HT_.out (by kernel_rfl)) (by decide) (fun K hK => ?_)
                          refine goes_ Try.func57 (by kernel_rfl) rfl #[.agg #[.int .u64 t232, .slice Ao12 t233.length co12, .int .u32 t236]] (by rfl) rfl rfl (by (try simp only [List.map_toArray, List.map_cons, List.map_nil]); first | done | rfl | (simp only [List.length_drop, List.length_take]; rfl)) ?_
                          with_reducible refine (mani_Chunks.calls k2 t232 _ _ t233 t236 t266 _ ?side1 ?side2 A61.out).mono ?_
                          (case side1 => repeat (first | exact (Kd.R_reads' HO_239001.out).2.2 | (with_reducible refine Kd.C_alloc ?_ _) | (with_reducible refine Kd.C_drewN ?_ _) | (with_reducible refine Kd.C_drew ?_)))
                          (case side2 => exact (Kd.R_reads' HO_239001.out).2.1)
                          rintro e w78 ⟨rfl, hb⟩
                          refine ⟨_, rfl, ?_⟩
                          have n0_ := Aside0.mk (Kd.S_below (by (with_reducible repeat (first | apply Kd.S_alloc | apply Kd.S_drewN | apply Kd.S_drew)); exact HO_9.out) hb)
                          have n1_ := Aside0.mk (Kd.R_below (Far.Ra HO_12.out) hb)
                          have n2_ := Aside0.mk (Kd.S_below (by (with_reducible repeat (first | apply Kd.S_alloc | apply Kd.S_drewN | apply Kd.S_drew)); exact HO_15.out) hb)
                          have n3_ := Aside0.mk (Kd.R_below (Far.Ra HO_239001.out) hb)
                          have n4_ := Aside0.mk (Kd.R_below (Far.Ra HO257.out) hb)
                          have n5_ := Aside0.mk (Kd.R_below (Far.Ra HO261.out) hb)
                          have n6_ := Aside0.mk (Kd.R_below (Far.Ra HO264.out) hb)
                          have n7_ := Aside0.mk (blk_below (g := gb238) (o := .cells #[.int .u64 t232, .slice Ao12 t233.length co12, .int .u32 t236] 45 (0, 0)) (Far.Ba BK238.out) hb)
                          have n8_ := Aside0.mk (below_step (by repeat (first | (with_reducible first | exact HB.out | apply below_alloc | apply pw_below_drewN | apply below_drew1 | refine below_set ?_ GE238.out) | exact HB.out)) hb)
                          clear HO_9 HO_12 HO_15 HO_239001 HO257 HO261 HO264 BK238 HB
                          have HO_9 := n0_
                          have HO_12 := n1_
                          have HO_15 := n2_
                          have HO_239001 := n3_
                          have HO257 := n4_
                          have HO261 := n5_
                          have HO264 := n6_
                          have BK238 := n7_
                          have HB := n8_
                          clear n0_ n1_ n2_ n3_ n4_ n5_ n6_ n7_ n8_
                          (try clear hb)
                          (try clear hb2)
                          (try clear hk)
                          (try clear hi)
                          refine hK.out _ _ ⟨(blk_cell BK238.out 0).trans rfl, (blk_cell BK238.out 1).trans rfl, (blk_cell BK238.out 2).trans rfl⟩ (fun hHeld => ?_)
                          clear hK K
                          refine norm_ (a' := ?_) ?_ ?_
                          rotate_left
                          · show Act.put _ (some 94) _ = _
                            simp only [Act.put, List.setIfInBounds_toArray, List.set_cons_zero, List.set_cons_succ, i64_w, i32_w]
                            rfl
                          refine one_ (i := 26) (N := some 95) #[true, true, true, true, true, true, true, true, true, true, true, true, true, true, true, true, true, true, true, true, true, true, true, true, true, true, true, false, false, false, false, false, false, false, false, false] rfl rfl (one_of HT_.out (by kernel_rfl)) (by decide) (fun K hK => ?_)
                          refine goes_ Try.func58 (by kernel_rfl) rfl #[.slice Ao8 t229.length co8, .int .i64 t266] (by rfl) rfl rfl (by (try simp only [List.map_toArray, List.map_cons, List.map_nil]); first | done | rfl | (simp only [List.length_drop, List.length_take]; rfl)) ?_
                          with_reducible refine (mani_Chunk.calls k2 _ _ t229 t266 t267 _ ?side1 ?side2 A62.out).mono ?_
                          (case side1 => repeat (first | exact (Kd.S_reads' HO_9.out).2.2 | (with_reducible refine Kd.C_alloc ?_ _) | (with_reducible refine Kd.C_drewN ?_ _) | (with_reducible refine Kd.C_drew ?_)))
                          (case side2 => exact (Kd.S_reads' HO_9.out).2.1)
                          rintro e w79 ⟨v268, rfl, ho0, hb⟩
                          refine ⟨_, rfl, ?_⟩
                          have n0_ := Aside0.mk (Kd.S_below (by (with_reducible repeat (first | apply Kd.S_alloc | apply Kd.S_drewN | apply Kd.S_drew)); exact HO_9.out) hb)
                          have n1_ := Aside0.mk (Kd.R_elder' (Far.Ra HO_12.out) (Kd.R_base ho0) hb)
                          have n2_ := Aside0.mk (Kd.S_below (by (with_reducible repeat (first | apply Kd.S_alloc | apply Kd.S_drewN | apply Kd.S_drew)); exact HO_15.out) hb)
                          have n3_ := Aside0.mk (Kd.R_below (Far.Ra HO_239001.out) hb)
                          have n4_ := Aside0.mk (Kd.R_below (Far.Ra HO257.out) hb)
                          have n5_ := Aside0.mk (Kd.R_elder' (Far.Ra HO261.out) (Kd.R_base ho0) hb)
                          have n6_ := Aside0.mk (Kd.R_below (Far.Ra HO264.out) hb)
                          have n7_ := Aside0.mk (Kd.R_lower (Kd.R_new' (Kd.R_new' ho0 (Kd.R_lt (Far.Ra HO_12.out))) (Kd.R_lt (Far.Ra HO261.out))) (below_size (by repeat (first | (with_reducible first | exact HB.out | apply below_alloc | apply pw_below_drewN | apply below_drew1 | refine below_set ?_ GE238.out) | exact HB.out))))
                          have n8_ := Aside0.mk (blk_below (g := gb238) (o := .cells #[.int .u64 t232, .slice Ao12 t233.length co12, .int .u32 t236] 45 (0, 0)) (Far.Ba BK238.out) hb)
                          have n9_ := Aside0.mk (below_step (by repeat (first | (with_reducible first | exact HB.out | apply below_alloc | apply pw_below_drewN | apply below_drew1 | refine below_set ?_ GE238.out) | exact HB.out)) hb)
                          clear HO_9 HO_12 HO_15 HO_239001 HO257 HO261 HO264 BK238 HB
                          have HO_9 := n0_
                          have HO_12 := n1_
                          have HO_15 := n2_
                          have HO_239001 := n3_
                          have HO257 := n4_
                          have HO261 := n5_
                          have HO264 := n6_
                          have HO269 := n7_
                          have BK238 := n8_
                          have HB := n9_
                          clear n0_ n1_ n2_ n3_ n4_ n5_ n6_ n7_ n8_ n9_
                          (try clear hb)
                          (try clear hb2)
                          (try clear hk)
                          (try clear hi)
                          (try clear ho0)
                          obtain ⟨Ao80, co80, eo80⟩ := Kd.R_slice HO269.out
                          (first | subst eo80 | (injection eo80 with f1_ f2_ f3_; have f4_ := f1_.symm; have f5_ := f3_.symm; clear f1_ f2_ f3_; subst f4_; subst f5_))
                          refine hK.out _ _ ⟨(blk_cell BK238.out 0).trans rfl, (blk_cell BK238.out 1).trans rfl, (blk_cell BK238.out 2).trans rfl⟩ (fun hHeld => ?_)
                          clear hK K
                          refine norm_ (a' := ?_) ?_ ?_
                          rotate_left
                          · show Act.put _ (some 95) _ = _
                            simp only [Act.put, List.setIfInBounds_toArray, List.set_cons_zero, List.set_cons_succ, i64_w, i32_w]
                            rfl
                          refine pure_ (i := 27) (N := some 96) (v := ?_) (a' := ?_) #[true, true, true, true, true, true, true, true, true, true, true, true, true, true, true, true, true, true, true, true, true, true, true, true, true, true, true, true, false, false, false, false, false, false, false, false] rfl rfl (any_of HT_.out (by kernel_rfl)) (fun _ _ _ h => h) (Or.inl ⟨by rfl, ?_⟩) ?_ ?_; rotate_left; (intro w'; go_simp; with_reducible rfl); rotate_left; (simp only [Act.put, List.setIfInBounds_toArray, List.set_cons_zero, List.set_cons_succ, i64_w, i32_w]; rfl)
                          refine pure_ (i := 28) (N := some 97) (v := ?_) (a' := ?_) #[true, true, true, true, true, true, true, true, true, true, true, true, true, true, true, true, true, true, true, true, true, true, true, true, true, true, true, true, true, false, false, false, false, false, false, false] rfl rfl (any_of HT_.out (by kernel_rfl)) (fun _ _ _ h => h) (Or.inl ⟨by rfl, ?_⟩) ?_ ?_; rotate_left; (intro w'; go_simp; with_reducible rfl); rotate_left; (simp only [Act.put, List.setIfInBounds_toArray, List.set_cons_zero, List.set_cons_succ, i64_w, i32_w]; rfl)
                          refine pure_ (i := 29) (N := some 98) (v := ?_) (a' := ?_) #[true, true, true, true, true, true, true, true, true, true, true, true, true, true, true, true, true, true, true, true, true, true, true, true, true, true, true, true, true, true, false, false, false, false, false, false] rfl rfl (any_of HT_.out (by kernel_rfl)) (fun _ _ _ h => h) (Or.inl ⟨by rfl, ?_⟩) ?_ ?_; rotate_left; (intro w'; go_simp; with_reducible rfl); rotate_left; (simp only [Act.put, List.setIfInBounds_toArray, List.set_cons_zero, List.set_cons_succ, i64_w, i32_w]; rfl)
                          refine pure_ (i := 30) (N := some 99) (v := ?_) (a' := ?_) #[true, true, true, true, true, true, true, true, true, true, true, true, true, true, true, true, true, true, true, true, true, true, true, true, true, true, true, true, true, true, true, false, false, false, false, false] rfl rfl (any_of HT_.out (by kernel_rfl)) (fun _ _ _ h => h) (Or.inl ⟨by rfl, ?_⟩) ?_ ?_; rotate_left; (intro w'; go_simp; with_reducible rfl); rotate_left; (simp only [Act.put, List.setIfInBounds_toArray, List.set_cons_zero, List.set_cons_succ, i64_w, i32_w]; rfl)
                          refine take_ (i := 31) (N := some 100) (v := ?_) (a' := ?_) #[true, true, true, true, true, true, true, true, true, true, true, true, true, true, true, true, true, true, true, true, true, true, true, true, true, true, true, true, true, true, true, true, false, false, false, false] rfl rfl (take_ofW HT_.out HW_.out (by kernel_rfl)) (fun _ _ _ h => h) (Or.inl ⟨by rfl, ?_⟩) hHeld ?_ ?_; rotate_left; (rintro w' ⟨s0, s1, s2⟩; go_simp; with_reducible rfl); rotate_left; (simp only [Act.put, List.setIfInBounds_toArray, List.set_cons_zero, List.set_cons_succ, i64_w, i32_w]; rfl)
                          refine one_ (i := 32) (N := some 101) #[true, true, true, true, true, true, true, true, true, true, true, true, true, true, true, true, true, true, true, true, true, true, true, true, true, true, true, true, true, true, true, true, true, false, false, false] rfl rfl (one_of HT_.out (by kernel_rfl)) (by decide) (fun K hK => ?_)
                          refine goes_ Try.func59 (by kernel_rfl) rfl #[.agg #[.int .u64 t232, .slice Ao12 t233.length co12, .int .u32 t236], .int .i64 (-1)] (by rfl) rfl rfl (by (try simp only [List.map_toArray, List.map_cons, List.map_nil]); first | done | rfl | (simp only [List.length_drop, List.length_take]; rfl)) ?_
                          with_reducible refine (mani_Size.calls k2 t232 _ _ t233 t236 (-1) t270 _ ?side1 ?side2 A64.out).mono ?_
                          (case side1 => repeat (first | exact (Kd.R_reads' HO_239001.out).2.2 | (with_reducible refine Kd.C_alloc ?_ _) | (with_reducible refine Kd.C_drewN ?_ _) | (with_reducible refine Kd.C_drew ?_)))
                          (case side2 => exact (Kd.R_reads' HO_239001.out).2.1)
                          rintro e w81 ⟨rfl, hb⟩
                          refine ⟨_, rfl, ?_⟩
                          have n0_ := Aside0.mk (Kd.S_below (by (with_reducible repeat (first | apply Kd.S_alloc | apply Kd.S_drewN | apply Kd.S_drew)); exact HO_9.out) hb)
                          have n1_ := Aside0.mk (Kd.R_below (Far.Ra HO_12.out) hb)
                          have n2_ := Aside0.mk (Kd.S_below (by (with_reducible repeat (first | apply Kd.S_alloc | apply Kd.S_drewN | apply Kd.S_drew)); exact HO_15.out) hb)
                          have n3_ := Aside0.mk (Kd.R_below (Far.Ra HO_239001.out) hb)
                          have n4_ := Aside0.mk (Kd.R_below (Far.Ra HO257.out) hb)
                          have n5_ := Aside0.mk (Kd.R_below (Far.Ra HO261.out) hb)
                          have n6_ := Aside0.mk (Kd.R_below (Far.Ra HO264.out) hb)
                          have n7_ := Aside0.mk (Kd.R_below (Far.Ra HO269.out) hb)
                          have n8_ := Aside0.mk (blk_below (g := gb238) (o := .cells #[.int .u64 t232, .slice Ao12 t233.length co12, .int .u32 t236] 45 (0, 0)) (Far.Ba BK238.out) hb)
                          have n9_ := Aside0.mk (below_step (by repeat (first | (with_reducible first | exact HB.out | apply below_alloc | apply pw_below_drewN | apply below_drew1 | refine below_set ?_ GE238.out) | exact HB.out)) hb)
                          clear HO_9 HO_12 HO_15 HO_239001 HO257 HO261 HO264 HO269 BK238 HB
                          have HO_9 := n0_
                          have HO_12 := n1_
                          have HO_15 := n2_
                          have HO_239001 := n3_
                          have HO257 := n4_
                          have HO261 := n5_
                          have HO264 := n6_
                          have HO269 := n7_
                          have BK238 := n8_
                          have HB := n9_
                          clear n0_ n1_ n2_ n3_ n4_ n5_ n6_ n7_ n8_ n9_
                          (try clear hb)
                          (try clear hb2)
                          (try clear hk)
                          (try clear hi)
                          refine hK.out _ _ ⟨(blk_cell BK238.out 0).trans rfl, (blk_cell BK238.out 1).trans rfl, (blk_cell BK238.out 2).trans rfl⟩ (fun hHeld => ?_)
                          clear hK K
                          refine norm_ (a' := ?_) ?_ ?_
                          rotate_left
                          · show Act.put _ (some 101) _ = _
                            simp only [Act.put, List.setIfInBounds_toArray, List.set_cons_zero, List.set_cons_succ, i64_w, i32_w]
                            rfl
                          refine pure_ (i := 33) (N := some 102) (v := ?_) (a' := ?_) #[true, true, true, true, true, true, true, true, true, true, true, true, true, true, true, true, true, true, true, true, true, true, true, true, true, true, true, true, true, true, true, true, true, true, false, false] rfl rfl (any_of HT_.out (by kernel_rfl)) (fun _ _ _ h => h) (Or.inl ⟨by rfl, ?_⟩) ?_ ?_; rotate_left; (intro w'; go_simp; with_reducible rfl); rotate_left; (simp only [Act.put, List.setIfInBounds_toArray, List.set_cons_zero, List.set_cons_succ, i64_w, i32_w]; rfl)
                          refine pure_ (i := 34) (N := some 103) (v := ?_) (a' := ?_) #[true, true, true, true, true, true, true, true, true, true, true, true, true, true, true, true, true, true, true, true, true, true, true, true, true, true, true, true, true, true, true, true, true, true, true, false] rfl rfl (any_of HT_.out (by kernel_rfl)) (fun _ _ _ h => h) (Or.inl ⟨by rfl, ?_⟩) ?_ ?_; rotate_left; (intro w'; go_simp; with_reducible rfl); rotate_left; (simp only [Act.put, List.setIfInBounds_toArray, List.set_cons_zero, List.set_cons_succ, i64_w, i32_w]; rfl)
                          refine pure_ (i := 35) (N := some 8) (v := ?_) (a' := ?_) #[true, true, true, true, true, true, true, true, true, true, true, true, true, true, true, true, true, true, true, true, true, true, true, true, true, true, true, true, true, true, true, true, true, true, true, true] rfl rfl (any_of HT_.out (by kernel_rfl)) (fun _ _ _ h => h) (Or.inl ⟨by rfl, ?_⟩) ?_ ?_; rotate_left; (intro w'; go_simp; with_reducible rfl); rotate_left; (simp only [Act.put, List.setIfInBounds_toArray, List.set_cons_zero, List.set_cons_succ, i64_w, i32_w]; rfl)
                          refine done_ (done_of HT_.out (by kernel_rfl)) ?_
                          try go_wp2
                          go_ret
                          exact ⟨by first | rfl | (simp [errW_none, errW_some] <;> rfl) | (simp [*, errW_none, errW_some] <;> rfl) | (refine congrArg (fun z_ : Int => Ending.returned (.bool (z_ == _))) ?_; simp only [IntKind.wrap, IntKind.bits, IntKind.signed]; simp <;> omega), by repeat (first | (with_reducible first | exact HB.out | apply below_alloc | apply pw_below_drewN | apply below_drew1 | refine below_set ?_ GE238.out) | exact HB.out)⟩
                        · rw [if_neg c63] at H
                          have c63b0 : ((t267.length : Int) == 0) = false := beq_eq_false_iff_ne.mpr c63
                          have c63b1 : ((t267.length : Int) != 0) = true := bne_iff_ne.mpr c63
                          have c63b2 : ¬ (t267 = []) := fun h_ => c63 (by rw [h_]; rfl)
                          exact absurd ((Option.some.inj H).trans HRT_.out) (by decide)
                      · replace c60 := Bool.eq_false_iff.mpr c60
                        subst c60
                        have H1 : (some false) = some r := by rw [if_neg (show ¬ (false = true) by decide)] at H; exact H
                        clear H
                        have H := H1
                        clear H1
                        exact absurd ((Option.some.inj H).trans HRT_.out) (by decide)
                    · replace c57 := Bool.eq_false_iff.mpr c57
                      subst c57
                      have H1 : (some false) = some r := by rw [if_neg (show ¬ (false = true) by decide)] at H; exact H
                      clear H
                      have H := H1
                      clear H1
                      exact absurd ((Option.some.inj H).trans HRT_.out) (by decide)
                  · rw [if_neg c56] at H
                    have c56b0 : ((strOfNums x12_1).toList == (strOfNums t259).toList) = false := beq_eq_false_iff_ne.mpr c56
                    have c56b1 : ((strOfNums x12_1).toList != (strOfNums t259).toList) = true := bne_iff_ne.mpr c56
                    exact absurd ((Option.some.inj H).trans HRT_.out) (by decide)
                · rw [if_neg c54] at H
                  have c54b0 : (t237 == 0) = false := beq_eq_false_iff_ne.mpr c54
                  have c54b1 : (t237 != 0) = true := bne_iff_ne.mpr c54
                  exact absurd ((Option.some.inj H).trans HRT_.out) (by decide)
              · replace c53 := Bool.eq_false_iff.mpr c53
                subst c53
                have H1 : (some false) = some r := by rw [if_neg (show ¬ (false = true) by decide)] at H; exact H
                clear H
                have H := H1
                clear H1
                exact absurd ((Option.some.inj H).trans HRT_.out) (by decide)
/-- THE ONE PURE STATEMENT of scullerlaw12_ManiWhole: yours. -/
def scullerlaw12_ManiWhole.Pure : Prop := ∀ (a0 : Int) (l1 : List Int) (a2 : Int) (a3 : Int), (Lit.int .u64 a0).wf = true → l1.length ≤ maxLen → l1.length * 1 ≤ 140737488351232 → (∀ x ∈ l1, (Lit.int .u8 x).wf = true) → (Lit.int .u8 a2).wf = true → (Lit.int .u8 a3).wf = true → ∃ k, scullerlaw12_ManiWhole.f k a0 l1 a2 a3 = some true
theorem scullerlaw12_ManiWhole.walk (P : scullerlaw12_ManiWhole.Pure) (a0 : Int) (a1 : Option Addr) (len1 cap1 : Nat) (z1 : List Int) (a2 : Int) (a3 : Int) (w : World) (w0 : (Lit.int .u64 a0).wf = true) (w1 : (a1 = none ∧ len1 = 0 ∧ cap1 = 0 ∧ z1 = []) ∨ ∃ x, a1 = some x ∧ len1 ≤ cap1 ∧ cap1 ≤ maxLen ∧ z1.length = cap1 ∧ (∀ i, i < z1.length → w.cell? (x.add i) = some (.int .u8 (z1.getD i 0))) ∧ ∀ n ∈ z1, (Lit.int .u8 n).wf = true) (y1 : len1 * 1 ≤ 140737488351232) (w2 : (Lit.int .u8 a2).wf = true) (w3 : (Lit.int .u8 a3).wf = true) :
    Calls Try.prog 12 #[.int .u64 a0, .slice a1 len1 cap1, .int .u8 a2, .int .u8 a3] w fun e w' => e = .returned (.bool true) ∧ Below w.heap.size w w' := by
  obtain ⟨l1, rfl, hr1, hm1, hw1, hc1⟩ := ReadsInt.ofRowC w1
  obtain ⟨k, h⟩ := P a0 l1 a2 a3 w0 hm1 y1 hw1 w2 w3
  refine (scullerlaw12_ManiWhole.calls k a0 _ _ l1 a2 a3 true w (Kd.C_of_reads (d := (0 : Int)) (h1 := fun _ => rfl) hr1) hc1 h rfl).mono ?_
  rintro e w' ⟨rfl, hd⟩
  exact ⟨rfl, hd⟩
end Go.Proofs.Ytliohoalackhiaa.Q
