/- Written by a program of this repo (wip/tools/gprint.py): what functions of the Go program compute, the proofs that they do, and the rows of statements. Conditions: those in each theorem. -/
import Derived.Test.YtcjicfpdmegckaaCx0
import Derived.Test.YtcjicfpdmegckaaCx1
import Derived.Test.YtcjicfpdmegckaaCx2
import Derived.Test.YtcjicfpdmegckaaCx8
import Derived.Test.YtcjicfpdmegckaaCgPackE
import Derived.Test.YtcjicfpdmegckaaCgPackP
import Derived.Test.YtcjicfpdmegckaaWFar
import Derived.Test.YtcjicfpdmegckaaWBm
namespace Go.Proofs.Ytcjicfpdmegckaa.C
open Go.RowKit Go.Proofs.YtcjicfpdmegckaaW.PrintWords Go.Proofs.YtcjicfpdmegckaaW.PrintLast Go.Proofs.YtcjicfpdmegckaaW.PrintMore
attribute [local go_sem] max2_int min2_int max_two min_two max_three min_three max_four min_four   -- for this text's walks alone
set_option linter.unusedVariables false
set_option linter.unusedSimpArgs false

/-! ### scullerlaw13_PackCut: function 18 -/
def scullerlaw13_PackCut.f (k : Nat) (a0 : Int) (a1 : Int) (l2 : List Int) (a3 : Int) (a4 : Int) (a5 : Int) : Option (Bool) := (scullerlaw13_Gram.f k a0 a1 1 2 l2 (Int.tmod a3 230)).bind fun bt182 => ((pack_Encode.f k bt182.1 bt182.2.1 bt182.2.2.1 bt182.2.2.2.1 bt182.2.2.2.2.1 bt182.2.2.2.2.2.1 bt182.2.2.2.2.2.2).bind fun bt193 => (if (bt193.1.length : Int) = 0 then (some false) else (if 0 ≤ (Int.tmod (wrap64 (a4)) 21) then (if (Int.tmod (wrap64 (a4)) 21) ≤ (bt193.1.length : Int) then ((pack_Parse.f k (bt193.1.take ((Int.tmod (wrap64 (a4)) 21) : Int).toNat)).bind fun bt201 => (if ([] : List Int).length + bt193.1.length < 140737488355328 then ((some (([] : List Int) ++ bt193.1 : List Int)).bind fun y214 => (if y214.length < 140737488355328 then ((some (y214 ++ [a5] : List Int)).bind fun y217 => ((pack_Parse.f k y217).bind fun bt220 => ((scullerlaw13_known.f k).bind fun t233 => (if t233 = true then (if bt201.2.2.2.2.2.2.2 = 10 then (if bt220.2.2.2.2.2.2.2 = 0 then (if 0 ≤ (wrap64 ((y217.length : Int) - 4)) then (if (wrap64 ((y217.length : Int) - 4)) ≤ (y217.length : Int) then ((scullerref02_Seal.f k (y217.take ((wrap64 ((y217.length : Int) - 4)) : Int).toNat)).bind fun t238 => (some ((strOfNums t238).toList == (strOfNums y217).toList))) else (none)) else (none)) else (if bt220.1 = 0 then (some true) else (if 0 ≤ (wrap64 ((y217.length : Int) - 4)) then (if (wrap64 ((y217.length : Int) - 4)) ≤ (y217.length : Int) then ((scullerref02_Seal.f k (y217.take ((wrap64 ((y217.length : Int) - 4)) : Int).toNat)).bind fun t245 => (some ((strOfNums t245).toList == (strOfNums y217).toList))) else (none)) else (none)))) else (some false)) else (some false))))) else (none))) else (none))) else (none)) else (none))))
def scullerlaw13_PackCut.T9 : Bool × List (List Nat × List Nat) := (true, [([], []), ([0, 0], [0]), ([1], [1]), ([2, 1], [1, 2]), ([1, 3], [1, 3]), ([4, 1], [4]), ([5], [5]), ([6, 5], [5, 6]), ([7, 5, 5], [5, 7]), ([8], [8]), ([9, 8], [8, 9]), ([10, 8], [8, 10]), ([8, 11, 5], [5, 8, 11]), ([12, 8, 5], [5, 12]), ([13], [13]), ([13], [13]), ([15, 13], [13, 15]), ([16, 13], [13, 16]), ([14, 17, 13], [13, 14, 17]), ([18, 13, 13], [13, 18]), ([19, 13], [13, 19]), ([13], [13]), ([21, 13], [13, 21]), ([20, 22, 13], [13, 20, 22]), ([13, 23, 5], [5, 13, 23]), ([5, 24], [5, 24]), ([25, 19, 0, 1, 2, 3, 4, 5, 6, 7, 8, 9, 10, 11, 12, 13, 14, 15, 16, 17, 18, 19, 20, 21, 22, 23, 24, 25], [25])])
def scullerlaw13_PackCut.B9 : List Nat := [0, 1, 3, 7, 15, 31, 63, 127, 255, 511, 1023, 2047, 4095, 8191, 16383, 16383, 49151, 114687, 262143, 524287, 1048575, 16383, 2113535, 8388607, 16777215, 33554431, 67108863]
theorem scullerlaw13_PackCut.tab9 : rtab .any (opsOf Try.f18 9) = scullerlaw13_PackCut.T9 := by kernel_rfl
theorem scullerlaw13_PackCut.bits9 : waitsOk scullerlaw13_PackCut.T9.2 scullerlaw13_PackCut.B9 = true := by kernel_rfl
set_option maxHeartbeats 8000000 in
set_option maxRecDepth 100000 in
theorem scullerlaw13_PackCut.calls (k : Nat) (a0 : Int) (a1 : Int) (A2 : Option Addr) (c2 : Nat) (l2 : List Int) (a3 : Int) (a4 : Int) (a5 : Int) (r : Bool) (w : World) (hr2 : Kd.C (Kd.int .u8) w A2 l2.length l2) (hc2 : l2.length ≤ c2) (h : scullerlaw13_PackCut.f k a0 a1 l2 a3 a4 a5 = some r) (hr_ : r = true) :
    Calls Try.prog 18 #[.int .u64 a0, .int .u32 a1, .slice A2 l2.length c2, .int .u8 a3, .int .u16 a4, .int .u8 a5] w fun e w' => e = .returned (.bool r) ∧ Below w.heap.size w w' := by
  have HRT_ := Aside0.mk hr_
  clear hr_
  have hu96 := Try.underlying96
  have HR2 := Aside0.mk hr2
  have HC2 := Aside0.mk hc2
  clear hr2 hc2
  have HB := Aside0.mk (Below.refl w.heap.size w)
  have H : ((scullerlaw13_Gram.f k a0 a1 1 2 l2 (Int.tmod a3 230)).bind fun bt182 => ((pack_Encode.f k bt182.1 bt182.2.1 bt182.2.2.1 bt182.2.2.2.1 bt182.2.2.2.2.1 bt182.2.2.2.2.2.1 bt182.2.2.2.2.2.2).bind fun bt193 => (if (bt193.1.length : Int) = 0 then (some false) else (if 0 ≤ (Int.tmod (wrap64 (a4)) 21) then (if (Int.tmod (wrap64 (a4)) 21) ≤ (bt193.1.length : Int) then ((pack_Parse.f k (bt193.1.take ((Int.tmod (wrap64 (a4)) 21) : Int).toNat)).bind fun bt201 => (if ([] : List Int).length + bt193.1.length < 140737488355328 then ((some (([] : List Int) ++ bt193.1 : List Int)).bind fun y214 => (if y214.length < 140737488355328 then ((some (y214 ++ [a5] : List Int)).bind fun y217 => ((pack_Parse.f k y217).bind fun bt220 => ((scullerlaw13_known.f k).bind fun t233 => (if t233 = true then (if bt201.2.2.2.2.2.2.2 = 10 then (if bt220.2.2.2.2.2.2.2 = 0 then (if 0 ≤ (wrap64 ((y217.length : Int) - 4)) then (if (wrap64 ((y217.length : Int) - 4)) ≤ (y217.length : Int) then ((scullerref02_Seal.f k (y217.take ((wrap64 ((y217.length : Int) - 4)) : Int).toNat)).bind fun t238 => (some ((strOfNums t238).toList == (strOfNums y217).toList))) else (none)) else (none)) else (if bt220.1 = 0 then (some true) else (if 0 ≤ (wrap64 ((y217.length : Int) - 4)) then (if (wrap64 ((y217.length : Int) - 4)) ≤ (y217.length : Int) then ((scullerref02_Seal.f k (y217.take ((wrap64 ((y217.length : Int) - 4)) : Int).toNat)).bind fun t245 => (some ((strOfNums t245).toList == (strOfNums y217).toList))) else (none)) else (none)))) else (some false)) else (some false))))) else (none))) else (none))) else (none)) else (none))))) = some r := h
  clear h
  replace H := Option.bind_eq_some_iff.mp H
  obtain ⟨⟨t182, t183, t184, t185, t186, t187, t190⟩, A70, H⟩ := H
  replace H : ((pack_Encode.f k t182 t183 t184 t185 t186 t187 t190).bind fun bt193 => (if (bt193.1.length : Int) = 0 then (some false) else (if 0 ≤ (Int.tmod (wrap64 (a4)) 21) then (if (Int.tmod (wrap64 (a4)) 21) ≤ (bt193.1.length : Int) then ((pack_Parse.f k (bt193.1.take ((Int.tmod (wrap64 (a4)) 21) : Int).toNat)).bind fun bt201 => (if ([] : List Int).length + bt193.1.length < 140737488355328 then ((some (([] : List Int) ++ bt193.1 : List Int)).bind fun y214 => (if y214.length < 140737488355328 then ((some (y214 ++ [a5] : List Int)).bind fun y217 => ((pack_Parse.f k y217).bind fun bt220 => ((scullerlaw13_known.f k).bind fun t233 => (if t233 = true then (if bt201.2.2.2.2.2.2.2 = 10 then (if bt220.2.2.2.2.2.2.2 = 0 then (if 0 ≤ (wrap64 ((y217.length : Int) - 4)) then (if (wrap64 ((y217.length : Int) - 4)) ≤ (y217.length : Int) then ((scullerref02_Seal.f k (y217.take ((wrap64 ((y217.length : Int) - 4)) : Int).toNat)).bind fun t238 => (some ((strOfNums t238).toList == (strOfNums y217).toList))) else (none)) else (none)) else (if bt220.1 = 0 then (some true) else (if 0 ≤ (wrap64 ((y217.length : Int) - 4)) then (if (wrap64 ((y217.length : Int) - 4)) ≤ (y217.length : Int) then ((scullerref02_Seal.f k (y217.take ((wrap64 ((y217.length : Int) - 4)) : Int).toNat)).bind fun t245 => (some ((strOfNums t245).toList == (strOfNums y217).toList))) else (none)) else (none)))) else (some false)) else (some false))))) else (none))) else (none))) else (none)) else (none)))) = some r := H
  have A7 := Aside0.mk A70
  clear A70
  replace H := Option.bind_eq_some_iff.mp H
  obtain ⟨⟨t193, t196⟩, A80, H⟩ := H
  replace H : (if (t193.length : Int) = 0 then (some false) else (if 0 ≤ (Int.tmod (wrap64 (a4)) 21) then (if (Int.tmod (wrap64 (a4)) 21) ≤ (t193.length : Int) then ((pack_Parse.f k (t193.take ((Int.tmod (wrap64 (a4)) 21) : Int).toNat)).bind fun bt201 => (if ([] : List Int).length + t193.length < 140737488355328 then ((some (([] : List Int) ++ t193 : List Int)).bind fun y214 => (if y214.length < 140737488355328 then ((some (y214 ++ [a5] : List Int)).bind fun y217 => ((pack_Parse.f k y217).bind fun bt220 => ((scullerlaw13_known.f k).bind fun t233 => (if t233 = true then (if bt201.2.2.2.2.2.2.2 = 10 then (if bt220.2.2.2.2.2.2.2 = 0 then (if 0 ≤ (wrap64 ((y217.length : Int) - 4)) then (if (wrap64 ((y217.length : Int) - 4)) ≤ (y217.length : Int) then ((scullerref02_Seal.f k (y217.take ((wrap64 ((y217.length : Int) - 4)) : Int).toNat)).bind fun t238 => (some ((strOfNums t238).toList == (strOfNums y217).toList))) else (none)) else (none)) else (if bt220.1 = 0 then (some true) else (if 0 ≤ (wrap64 ((y217.length : Int) - 4)) then (if (wrap64 ((y217.length : Int) - 4)) ≤ (y217.length : Int) then ((scullerref02_Seal.f k (y217.take ((wrap64 ((y217.length : Int) - 4)) : Int).toNat)).bind fun t245 => (some ((strOfNums t245).toList == (strOfNums y217).toList))) else (none)) else (none)))) else (some false)) else (some false))))) else (none))) else (none))) else (none)) else (none))) = some r := H
  have A8 := Aside0.mk A80
  clear A80
  by_cases c9 : (t193.length : Int) = 0
  · rw [if_pos c9] at H
    have c9b0 : ((t193.length : Int) == 0) = true := beq_iff_eq.mpr c9
    have c9b1 : ((t193.length : Int) != 0) = false := bne_eq_false_iff_eq.mpr c9
    clear c9
    exact absurd ((Option.some.inj H).trans HRT_.out) (by decide)
  · rw [if_neg c9] at H
    have c9b0 : ((t193.length : Int) == 0) = false := beq_eq_false_iff_ne.mpr c9
    have c9b1 : ((t193.length : Int) != 0) = true := bne_iff_ne.mpr c9
    have c9b2 : ¬ (t193 = []) := fun h_ => c9 (by rw [h_]; rfl)
    obtain ⟨ji15, hji15⟩ : ∃ j_ : Int, (Int.tmod (wrap64 (a4)) 21) = j_ := ⟨_, rfl⟩
    replace H : (if 0 ≤ (ji15) then (if (ji15) ≤ (t193.length : Int) then ((pack_Parse.f k (t193.take ((ji15) : Int).toNat)).bind fun bt201 => (if ([] : List Int).length + t193.length < 140737488355328 then ((some (([] : List Int) ++ t193 : List Int)).bind fun y214 => (if y214.length < 140737488355328 then ((some (y214 ++ [a5] : List Int)).bind fun y217 => ((pack_Parse.f k y217).bind fun bt220 => ((scullerlaw13_known.f k).bind fun t233 => (if t233 = true then (if bt201.2.2.2.2.2.2.2 = 10 then (if bt220.2.2.2.2.2.2.2 = 0 then (if 0 ≤ (wrap64 ((y217.length : Int) - 4)) then (if (wrap64 ((y217.length : Int) - 4)) ≤ (y217.length : Int) then ((scullerref02_Seal.f k (y217.take ((wrap64 ((y217.length : Int) - 4)) : Int).toNat)).bind fun t238 => (some ((strOfNums t238).toList == (strOfNums y217).toList))) else (none)) else (none)) else (if bt220.1 = 0 then (some true) else (if 0 ≤ (wrap64 ((y217.length : Int) - 4)) then (if (wrap64 ((y217.length : Int) - 4)) ≤ (y217.length : Int) then ((scullerref02_Seal.f k (y217.take ((wrap64 ((y217.length : Int) - 4)) : Int).toNat)).bind fun t245 => (some ((strOfNums t245).toList == (strOfNums y217).toList))) else (none)) else (none)))) else (some false)) else (some false))))) else (none))) else (none))) else (none)) else (none)) = some r := by first | (rw [hji15] at H; exact H) | (simp only [hji15] at H ⊢; exact H)
    (try rw [hji15] at A7)
    (try rw [hji15] at A8)
    by_cases c16 : 0 ≤ (ji15)
    · rw [if_pos c16] at H
      have c16b0 := eq_true c16
      have c16b1 : decide (0 ≤ (ji15)) = true := decide_eq_true c16
      clear c16
      by_cases c17 : (ji15) ≤ (t193.length : Int)
      · rw [if_pos c17] at H
        have c17b0 := eq_true c17
        have c17b1 : decide ((ji15) ≤ (t193.length : Int)) = true := decide_eq_true c17
        clear c17
        obtain ⟨y197, hy197⟩ : ∃ y_ : List Int, y_ = (t193.take ((ji15) : Int).toNat) := ⟨_, rfl⟩
        replace H : ((pack_Parse.f k y197).bind fun bt201 => (if ([] : List Int).length + t193.length < 140737488355328 then ((some (([] : List Int) ++ t193 : List Int)).bind fun y214 => (if y214.length < 140737488355328 then ((some (y214 ++ [a5] : List Int)).bind fun y217 => ((pack_Parse.f k y217).bind fun bt220 => ((scullerlaw13_known.f k).bind fun t233 => (if t233 = true then (if bt201.2.2.2.2.2.2.2 = 10 then (if bt220.2.2.2.2.2.2.2 = 0 then (if 0 ≤ (wrap64 ((y217.length : Int) - 4)) then (if (wrap64 ((y217.length : Int) - 4)) ≤ (y217.length : Int) then ((scullerref02_Seal.f k (y217.take ((wrap64 ((y217.length : Int) - 4)) : Int).toNat)).bind fun t238 => (some ((strOfNums t238).toList == (strOfNums y217).toList))) else (none)) else (none)) else (if bt220.1 = 0 then (some true) else (if 0 ≤ (wrap64 ((y217.length : Int) - 4)) then (if (wrap64 ((y217.length : Int) - 4)) ≤ (y217.length : Int) then ((scullerref02_Seal.f k (y217.take ((wrap64 ((y217.length : Int) - 4)) : Int).toNat)).bind fun t245 => (some ((strOfNums t245).toList == (strOfNums y217).toList))) else (none)) else (none)))) else (some false)) else (some false))))) else (none))) else (none))) = some r := by first | (rw [hy197]; with_reducible exact H) | (have H2_ := (Option.bind_some _ _).symm.trans H; rw [hy197]; with_reducible exact H2_) | (have H2_ := (Option.bind_some _ _).symm.trans H; with_reducible exact H2_) | with_reducible exact H | (rw [hy197]; exact H) | exact H
        have Ny197 := Aside0.mk hy197
        clear hy197
        replace H := Option.bind_eq_some_iff.mp H
        obtain ⟨⟨t201, t202, t203, t204, t205, t206, t209, t212⟩, A180, H⟩ := H
        replace H : (if ([] : List Int).length + t193.length < 140737488355328 then ((some (([] : List Int) ++ t193 : List Int)).bind fun y214 => (if y214.length < 140737488355328 then ((some (y214 ++ [a5] : List Int)).bind fun y217 => ((pack_Parse.f k y217).bind fun bt220 => ((scullerlaw13_known.f k).bind fun t233 => (if t233 = true then (if t212 = 10 then (if bt220.2.2.2.2.2.2.2 = 0 then (if 0 ≤ (wrap64 ((y217.length : Int) - 4)) then (if (wrap64 ((y217.length : Int) - 4)) ≤ (y217.length : Int) then ((scullerref02_Seal.f k (y217.take ((wrap64 ((y217.length : Int) - 4)) : Int).toNat)).bind fun t238 => (some ((strOfNums t238).toList == (strOfNums y217).toList))) else (none)) else (none)) else (if bt220.1 = 0 then (some true) else (if 0 ≤ (wrap64 ((y217.length : Int) - 4)) then (if (wrap64 ((y217.length : Int) - 4)) ≤ (y217.length : Int) then ((scullerref02_Seal.f k (y217.take ((wrap64 ((y217.length : Int) - 4)) : Int).toNat)).bind fun t245 => (some ((strOfNums t245).toList == (strOfNums y217).toList))) else (none)) else (none)))) else (some false)) else (some false))))) else (none))) else (none)) = some r := H
        have A18 := Aside0.mk A180
        clear A180
        by_cases c19 : ([] : List Int).length + t193.length < 140737488355328
        · rw [if_pos c19] at H
          have LMc19 := Aside0.mk c19
          clear c19
          obtain ⟨y214, hy214⟩ : ∃ y_ : List Int, y_ = (([] : List Int) ++ t193) := ⟨_, rfl⟩
          replace H : (if y214.length < 140737488355328 then ((some (y214 ++ [a5] : List Int)).bind fun y217 => ((pack_Parse.f k y217).bind fun bt220 => ((scullerlaw13_known.f k).bind fun t233 => (if t233 = true then (if t212 = 10 then (if bt220.2.2.2.2.2.2.2 = 0 then (if 0 ≤ (wrap64 ((y217.length : Int) - 4)) then (if (wrap64 ((y217.length : Int) - 4)) ≤ (y217.length : Int) then ((scullerref02_Seal.f k (y217.take ((wrap64 ((y217.length : Int) - 4)) : Int).toNat)).bind fun t238 => (some ((strOfNums t238).toList == (strOfNums y217).toList))) else (none)) else (none)) else (if bt220.1 = 0 then (some true) else (if 0 ≤ (wrap64 ((y217.length : Int) - 4)) then (if (wrap64 ((y217.length : Int) - 4)) ≤ (y217.length : Int) then ((scullerref02_Seal.f k (y217.take ((wrap64 ((y217.length : Int) - 4)) : Int).toNat)).bind fun t245 => (some ((strOfNums t245).toList == (strOfNums y217).toList))) else (none)) else (none)))) else (some false)) else (some false))))) else (none)) = some r := by first | (rw [hy214]; with_reducible exact H) | (have H2_ := (Option.bind_some _ _).symm.trans H; rw [hy214]; with_reducible exact H2_) | (have H2_ := (Option.bind_some _ _).symm.trans H; with_reducible exact H2_) | with_reducible exact H | (rw [hy214]; exact H) | exact H
          have Ny214 := Aside0.mk hy214
          clear hy214
          by_cases c20 : y214.length < 140737488355328
          · rw [if_pos c20] at H
            have LMc20 := Aside0.mk c20
            clear c20
            obtain ⟨y217, hy217⟩ : ∃ y_ : List Int, y_ = (y214 ++ [a5]) := ⟨_, rfl⟩
            replace H : ((pack_Parse.f k y217).bind fun bt220 => ((scullerlaw13_known.f k).bind fun t233 => (if t233 = true then (if t212 = 10 then (if bt220.2.2.2.2.2.2.2 = 0 then (if 0 ≤ (wrap64 ((y217.length : Int) - 4)) then (if (wrap64 ((y217.length : Int) - 4)) ≤ (y217.length : Int) then ((scullerref02_Seal.f k (y217.take ((wrap64 ((y217.length : Int) - 4)) : Int).toNat)).bind fun t238 => (some ((strOfNums t238).toList == (strOfNums y217).toList))) else (none)) else (none)) else (if bt220.1 = 0 then (some true) else (if 0 ≤ (wrap64 ((y217.length : Int) - 4)) then (if (wrap64 ((y217.length : Int) - 4)) ≤ (y217.length : Int) then ((scullerref02_Seal.f k (y217.take ((wrap64 ((y217.length : Int) - 4)) : Int).toNat)).bind fun t245 => (some ((strOfNums t245).toList == (strOfNums y217).toList))) else (none)) else (none)))) else (some false)) else (some false)))) = some r := by first | (rw [hy217]; with_reducible exact H) | (have H2_ := (Option.bind_some _ _).symm.trans H; rw [hy217]; with_reducible exact H2_) | (have H2_ := (Option.bind_some _ _).symm.trans H; with_reducible exact H2_) | with_reducible exact H | (rw [hy217]; exact H) | exact H
            have Ny217 := Aside0.mk hy217
            clear hy217
            replace H := Option.bind_eq_some_iff.mp H
            obtain ⟨⟨t220, t221, t222, t223, t224, t225, t228, t231⟩, A210, H⟩ := H
            replace H : ((scullerlaw13_known.f k).bind fun t233 => (if t233 = true then (if t212 = 10 then (if t231 = 0 then (if 0 ≤ (wrap64 ((y217.length : Int) - 4)) then (if (wrap64 ((y217.length : Int) - 4)) ≤ (y217.length : Int) then ((scullerref02_Seal.f k (y217.take ((wrap64 ((y217.length : Int) - 4)) : Int).toNat)).bind fun t238 => (some ((strOfNums t238).toList == (strOfNums y217).toList))) else (none)) else (none)) else (if t220 = 0 then (some true) else (if 0 ≤ (wrap64 ((y217.length : Int) - 4)) then (if (wrap64 ((y217.length : Int) - 4)) ≤ (y217.length : Int) then ((scullerref02_Seal.f k (y217.take ((wrap64 ((y217.length : Int) - 4)) : Int).toNat)).bind fun t245 => (some ((strOfNums t245).toList == (strOfNums y217).toList))) else (none)) else (none)))) else (some false)) else (some false))) = some r := H
            have A21 := Aside0.mk A210
            clear A210
            replace H := Option.bind_eq_some_iff.mp H
            obtain ⟨t233, A220, H⟩ := H
            replace H : (if t233 = true then (if t212 = 10 then (if t231 = 0 then (if 0 ≤ (wrap64 ((y217.length : Int) - 4)) then (if (wrap64 ((y217.length : Int) - 4)) ≤ (y217.length : Int) then ((scullerref02_Seal.f k (y217.take ((wrap64 ((y217.length : Int) - 4)) : Int).toNat)).bind fun t238 => (some ((strOfNums t238).toList == (strOfNums y217).toList))) else (none)) else (none)) else (if t220 = 0 then (some true) else (if 0 ≤ (wrap64 ((y217.length : Int) - 4)) then (if (wrap64 ((y217.length : Int) - 4)) ≤ (y217.length : Int) then ((scullerref02_Seal.f k (y217.take ((wrap64 ((y217.length : Int) - 4)) : Int).toNat)).bind fun t245 => (some ((strOfNums t245).toList == (strOfNums y217).toList))) else (none)) else (none)))) else (some false)) else (some false)) = some r := H
            have A22 := Aside0.mk A220
            clear A220
            by_cases c23 : t233 = true
            · subst c23
              have H1 : (if t212 = 10 then (if t231 = 0 then (if 0 ≤ (wrap64 ((y217.length : Int) - 4)) then (if (wrap64 ((y217.length : Int) - 4)) ≤ (y217.length : Int) then ((scullerref02_Seal.f k (y217.take ((wrap64 ((y217.length : Int) - 4)) : Int).toNat)).bind fun t238 => (some ((strOfNums t238).toList == (strOfNums y217).toList))) else (none)) else (none)) else (if t220 = 0 then (some true) else (if 0 ≤ (wrap64 ((y217.length : Int) - 4)) then (if (wrap64 ((y217.length : Int) - 4)) ≤ (y217.length : Int) then ((scullerref02_Seal.f k (y217.take ((wrap64 ((y217.length : Int) - 4)) : Int).toNat)).bind fun t245 => (some ((strOfNums t245).toList == (strOfNums y217).toList))) else (none)) else (none)))) else (some false)) = some r := by rw [if_pos rfl] at H; exact H
              clear H
              have H := H1
              clear H1
              by_cases c24 : t212 = 10
              · rw [if_pos c24] at H
                have c24b0 : (t212 == 10) = true := beq_iff_eq.mpr c24
                have c24b1 : (t212 != 10) = false := bne_eq_false_iff_eq.mpr c24
                clear c24
                have HH_ := Aside0.mk H
                clear H
                go_enter Try.func18, Try.ntmps18
                try go_wp2_with (first | ((with_reducible refine gate_callee (f := 95) rfl ?_); refine goesL_ (some 26) rfl rfl Try.func95 (by kernel_rfl) rfl #[.int .u64 a0, .int .u32 a1, .int .u16 1, .int .u16 2, .slice A2 l2.length c2, .int .u8 (Int.tmod a3 230)] rfl (by (try simp only [List.map_toArray, List.map_cons, List.map_nil]); first | done | rfl | (simp only [List.length_drop, List.length_take]; rfl)) ?_; (with_reducible refine (scullerlaw13_Gram.calls k a0 a1 1 2 (fun k_ => k_ < w.heap.size) _ _ l2 (Int.tmod a3 230) t182 t183 t184 t185 t186 t187 t190 _ ?side1 A7.out).mono ?_); (case side1 => exact Kd.V_mk HC2.out (Kd.F_below (Kd.C_F (Kd.heap_int .u8) HR2.out) (Far.Bb HB.out))); rintro e w30 ⟨v188, v191, rfl, ho0, ho1, hb⟩; refine ⟨_, rfl, ?_⟩; have n0_ := Aside0.mk (Kd.R_lower (Kd.R_mono (ok' := fun k_ => True) ho0 (fun _ hk_ => trivial)) (below_size (Far.Bb HB.out))); have n1_ := Aside0.mk (Kd.R_lower (Kd.R_mono (ok' := fun k_ => True) ho1 (fun _ hk_ => trivial)) (below_size (Far.Bb HB.out))); have n2_ := Aside0.mk (below_step (Far.Bb HB.out) hb); clear HB; have HO189 := n0_; have HO192 := n1_; have HB := n2_; clear n0_ n1_ n2_; (try clear hb); (try clear hb2); (try clear hk); (try clear hi); (try clear ho0); (try clear ho1); obtain ⟨Ao31, co31, eo31⟩ := Kd.R_slice HO189.out; subst eo31; obtain ⟨Ao32, co32, eo32⟩ := Kd.R_slice HO192.out; subst eo32) | ((with_reducible refine gate_callee (f := 96) rfl ?_); refine goesL_ (some 27) rfl rfl Try.func96 (by kernel_rfl) rfl #[.agg #[.int .i64 t182, .int .u64 t183, .int .i64 t184, .int .i64 t185, .int .u32 t186, .slice Ao31 t187.length co31, .slice Ao32 t190.length co32]] rfl (by (try simp only [List.map_toArray, List.map_cons, List.map_nil]); first | done | rfl | (simp only [List.length_drop, List.length_take]; rfl)) ?_; (with_reducible refine (pack_Encode.calls k t182 t183 t184 t185 t186 _ _ t187 _ _ t190 t193 t196 _ ?side1 ?side2 ?side3 ?side4 A8.out).mono ?_); (case side1 => repeat (first | exact (Kd.R_reads' HO189.out).2.2 | (with_reducible refine Kd.C_alloc ?_ _) | (with_reducible refine Kd.C_drewN ?_ _) | (with_reducible refine Kd.C_drew ?_))); (case side2 => exact (Kd.R_reads' HO189.out).2.1); (case side3 => repeat (first | exact (Kd.R_reads' HO192.out).2.2 | (with_reducible refine Kd.C_alloc ?_ _) | (with_reducible refine Kd.C_drewN ?_ _) | (with_reducible refine Kd.C_drew ?_))); (case side4 => exact (Kd.R_reads' HO192.out).2.1); rintro e w33 ⟨v194, rfl, ho0, hb⟩; refine ⟨_, rfl, ?_⟩; have n0_ := Aside0.mk (Kd.R_below (Far.Ra HO189.out) hb); have n1_ := Aside0.mk (Kd.R_elder' (Far.Ra HO192.out) (Kd.R_base ho0) hb); have n2_ := Aside0.mk (Kd.R_lower (Kd.R_new' ho0 (Kd.R_lt (Far.Ra HO192.out))) (below_size (Far.Bb HB.out))); have n3_ := Aside0.mk (below_step (Far.Bb HB.out) hb); clear HO189 HO192 HB; have HO189 := n0_; have HO192 := n1_; have HO195 := n2_; have HB := n3_; clear n0_ n1_ n2_ n3_; (try clear hb); (try clear hb2); (try clear hk); (try clear hi); (try clear ho0); obtain ⟨Ao34, co34, eo34⟩ := Kd.R_slice HO195.out; subst eo34; have q35 : ((ji15) : Int) ≤ ((t193.length : Int) : Int) := of_decide_eq_true (by first | (with_reducible assumption) | assumption); obtain ⟨i035, hi035, _, hsz35, _⟩ := info_parts info5; have hroom35 : t193.length ≤ co34 := (Kd.R_reads' HO195.out).2.1; have hC35 : Kd.C (Kd.int .u8) _ Ao34 t193.length t193 := (Kd.R_reads' HO195.out).2.2; have hcut35 := cut_to (P := Try.prog) 29 5 .i64 Try.underlying29 hi035 Ao34 t193.length co34 (ji15) (of_decide_eq_true (by first | (with_reducible assumption) | assumption)) q35 hroom35; have hr35 := Kd.C_take (m := ((ji15) : Int).toNat) hC35 (by omega); have hy35 : y197.length = ((ji15) : Int).toNat := (by rw [Ny197.out, List.length_take]; omega); rw [← Ny197.out] at hr35; rw [← hy35] at hcut35; have HR200 := Aside0.mk hr35; have HC200 := Aside0.mk (show y197.length ≤ co34 from by omega); clear hr35 hC35 hroom35 hi035 hsz35; have KY35 := Aside0.mk hy35; clear hy35; have KL35 := Aside0.mk (show ((ji15) : Int).toNat ≤ t193.length from by omega); replace q35 := eq_true q35) | ((with_reducible refine gate_callee (f := 97) rfl ?_); refine goesL_ (some 39) rfl rfl Try.func97 (by kernel_rfl) rfl #[.slice Ao34 y197.length co34] rfl (by (try simp only [List.map_toArray, List.map_cons, List.map_nil]); first | done | rfl | (simp only [List.length_drop, List.length_take]; rfl)) ?_; (with_reducible refine (pack_Parse.calls k _ _ y197 t201 t202 t203 t204 t205 t206 t209 t212 _ ?side1 ?side2 A18.out).mono ?_); (case side1 => repeat (first | exact (by repeat (first | (with_reducible exact HR200.out) | (with_reducible refine Kd.C_alloc ?_ _) | (with_reducible refine Kd.C_drewN ?_ _) | (with_reducible refine Kd.C_drew ?_) | exact HR200.out)) | (with_reducible refine Kd.C_alloc ?_ _) | (with_reducible refine Kd.C_drewN ?_ _) | (with_reducible refine Kd.C_drew ?_))); (case side2 => exact HC200.out); rintro e w36 ⟨v207, v210, rfl, ho0, ho1, hb⟩; refine ⟨_, rfl, ?_⟩; have n0_ := Aside0.mk (Kd.R_elder' (Far.Ra HO189.out) (Kd.R_base ho0) hb); have n1_ := Aside0.mk (Kd.R_elder' (Far.Ra HO192.out) (Kd.R_base ho1) hb); have n2_ := Aside0.mk (Kd.R_elder' (Far.Ra HO195.out) (Kd.R_base ho1) hb); have n3_ := Aside0.mk (Kd.R_lower (Kd.R_new' ho0 (Kd.R_lt (Far.Ra HO189.out))) (below_size (Far.Bb HB.out))); have n4_ := Aside0.mk (Kd.R_lower (Kd.R_new' (Kd.R_new' ho1 (Kd.R_lt (Far.Ra HO192.out))) (Kd.R_lt (Far.Ra HO195.out))) (below_size (Far.Bb HB.out))); have n5_ := Aside0.mk (Kd.C_below (by repeat (first | (with_reducible exact HR200.out) | (with_reducible refine Kd.C_alloc ?_ _) | (with_reducible refine Kd.C_drewN ?_ _) | (with_reducible refine Kd.C_drew ?_) | exact HR200.out)) hb); have n6_ := Aside0.mk (below_step (Far.Bb HB.out) hb); clear HO189 HO192 HO195 HR200 HB; have HO189 := n0_; have HO192 := n1_; have HO195 := n2_; have HO208 := n3_; have HO211 := n4_; have HR200 := n5_; have HB := n6_; clear n0_ n1_ n2_ n3_ n4_ n5_ n6_; (try clear hb); (try clear hb2); (try clear hk); (try clear hi); (try clear ho0); (try clear ho1)) | ((with_reducible refine gate_dst (N := 15) rfl ?_); (try (refine gate_guard (by rfl) ?_; dsimp only)); refine box_event ?hg (N := 15) ?hd (cs := #[.int .i64 0, .int .u64 0, .int .i64 0, .int .i64 0, .int .u32 0, .slice none 0 0, .slice none 0 0]) (t := 96) ?hr ?_; (case hd => rfl); (case hg => rfl); (case hr => first | (go_simp; done) | (go_simp; rfl)); intro gb213 hg w37 hbox hb; have n0_ := Aside0.mk (Kd.R_below (Far.Ra HO189.out) hb); have n1_ := Aside0.mk (Kd.R_below (Far.Ra HO192.out) hb); have n2_ := Aside0.mk (Kd.R_below (Far.Ra HO195.out) hb); have n3_ := Aside0.mk (Kd.R_below (Far.Ra HO208.out) hb); have n4_ := Aside0.mk (Kd.R_below (Far.Ra HO211.out) hb); have n5_ := Aside0.mk (Kd.C_below (by repeat (first | (with_reducible exact HR200.out) | (with_reducible refine Kd.C_alloc ?_ _) | (with_reducible refine Kd.C_drewN ?_ _) | (with_reducible refine Kd.C_drew ?_) | exact HR200.out)) hb); have n6_ := Aside0.mk (below_step (Far.Bb HB.out) hb); have n7_ := Aside0.mk (hbox); have n8_ := Aside0.mk ((by rw [hg]; exact (below_size (Far.Bb HB.out)) : w.heap.size ≤ gb213)); have n9_ := Aside0.mk ((by rw [hg]; exact (below_size (Far.Bb HB.out)) : w.heap.size ≤ gb213)); clear HO189 HO192 HO195 HO208 HO211 HR200 HB; have HO189 := n0_; have HO192 := n1_; have HO195 := n2_; have HO208 := n3_; have HO211 := n4_; have HR200 := n5_; have HB := n6_; have BK213 := n7_; have GW213 := n8_; have GE213 := n9_; clear n0_ n1_ n2_ n3_ n4_ n5_ n6_ n7_ n8_ n9_; clear hb hbox hg; have hcz38_0 : w37.cell? ⟨gb213, 0, none⟩ = some (.int .i64 0) := (blk_cell BK213.out 0).trans rfl; have hcz38_1 : w37.cell? ⟨gb213, 1, none⟩ = some (.int .u64 0) := (blk_cell BK213.out 1).trans rfl; have hcz38_2 : w37.cell? ⟨gb213, 2, none⟩ = some (.int .i64 0) := (blk_cell BK213.out 2).trans rfl; have hcz38_3 : w37.cell? ⟨gb213, 3, none⟩ = some (.int .i64 0) := (blk_cell BK213.out 3).trans rfl; have hcz38_4 : w37.cell? ⟨gb213, 4, none⟩ = some (.int .u32 0) := (blk_cell BK213.out 4).trans rfl; have hcz38_5 : w37.cell? ⟨gb213, 5, none⟩ = some (.slice none 0 0) := (blk_cell BK213.out 5).trans rfl; have hcz38_6 : w37.cell? ⟨gb213, 6, none⟩ = some (.slice none 0 0) := (blk_cell BK213.out 6).trans rfl; have hfz38_0 := blk_frozen BK213.out 0; have hfz38_1 := blk_frozen BK213.out 1; have hfz38_2 := blk_frozen BK213.out 2; have hfz38_3 := blk_frozen BK213.out 3; have hfz38_4 := blk_frozen BK213.out 4; have hfz38_5 := blk_frozen BK213.out 5; have hfz38_6 := blk_frozen BK213.out 6; obtain ⟨Ao39, co39, eo39⟩ := Kd.R_slice HO208.out; subst eo39; obtain ⟨Ao40, co40, eo40⟩ := Kd.R_slice HO211.out; subst eo40) | ((with_reducible refine gate_builtin (b := .append) (xs := #[.tmp 42, .tmp 43]) rfl ?_); (try (refine gate_guard (by rfl) ?_; dsimp only)); at_builtin; refine Kd.R_append_rows (Kd.int .u8) (w0 := w) w.heap.size rfl (.tmp 42) (.tmp 43) 29 5 (.int .u8 0) 1 rfl Try.underlying29 info5 rfl (by decide) (by omega) (.slice none 0 0) ([] : List Int) t193 _ _ _ (fun k_ => some k_ ≠ (.slice Ao32 t190.length co32 : Value).ownBlock ∧ some k_ ≠ (.slice Ao34 t193.length co34 : Value).ownBlock ∧ some k_ ≠ (.slice Ao40 t209.length co40 : Value).ownBlock) (fun _ => False) rfl rfl ?aO ?aR (fun _ _ h => h) (fun _ h => h.elim) ?aF ?aB ?aS ?aL ?_; (case aR => refine (Kd.R_reads' (e := 5) (base := w.heap.size) (ok := fun k_ => ((True ∧ some k_ ≠ (.slice Ao32 t190.length co32 : Value).ownBlock) ∧ some k_ ≠ (.slice Ao40 t209.length co40 : Value).ownBlock)) (n := t193.length) (c := co34) ?_).2.2; exact (Far.Ra (Far.far7 HO195.out BK213.out (by decide) (.int .i64 t201) (.int .u64 t202) (.int .i64 t203) (.int .i64 t204) (.int .u32 t205) (.slice Ao39 t206.length co39) (.slice Ao40 t209.length co40)))); (case aB => exact (by repeat (first | (with_reducible first | exact HB.out | apply below_alloc | apply pw_below_drewN | apply below_drew1 | refine below_set ?_ GE213.out) | exact HB.out))); (case aF => exact (fun k_ hk => ⟨Kd.fresh' (Kd.R_lt (Far.Ra (Far.far7 HO192.out BK213.out (by decide) (.int .i64 t201) (.int .u64 t202) (.int .i64 t203) (.int .i64 t204) (.int .u32 t205) (.slice Ao39 t206.length co39) (.slice Ao40 t209.length co40)))) k_ hk, Kd.fresh' (Kd.R_lt (Far.Ra (Far.far7 HO195.out BK213.out (by decide) (.int .i64 t201) (.int .u64 t202) (.int .i64 t203) (.int .i64 t204) (.int .u32 t205) (.slice Ao39 t206.length co39) (.slice Ao40 t209.length co40)))) k_ hk, Kd.fresh' (Kd.R_lt (Far.Ra (Far.far7 HO211.out BK213.out (by decide) (.int .i64 t201) (.int .u64 t202) (.int .i64 t203) (.int .i64 t204) (.int .u32 t205) (.slice Ao39 t206.length co39) (.slice Ao40 t209.length co40)))) k_ hk⟩)); (case aO => exact ((Kd.R_nil _ _ _ _ (fun k_ => some k_ ≠ (.slice Ao32 t190.length co32 : Value).ownBlock ∧ some k_ ≠ (.slice Ao34 t193.length co34 : Value).ownBlock ∧ some k_ ≠ (.slice Ao40 t209.length co40 : Value).ownBlock)))); (case aS => exact (below_size (by repeat (first | (with_reducible first | exact HB.out | apply below_alloc | apply pw_below_drewN | apply below_drew1 | refine below_set ?_ GE213.out) | exact HB.out)))); (case aL => have := LMc19.out; omega); intro v215 w41 ho hb hg hat; rw [← Ny214.out] at ho; have n0_ := Aside0.mk (Kd.R_grown (Far.Ra (Far.far7 HO189.out BK213.out (by decide) (.int .i64 t201) (.int .u64 t202) (.int .i64 t203) (.int .i64 t204) (.int .u32 t205) (.slice Ao39 t206.length co39) (.slice Ao40 t209.length co40))) hg (fun _ _ => by simp [Value.ownBlock])); have n1_ := Aside0.mk (Kd.R_after (Kd.R_apart_nil (Far.Ra (Far.far7 HO192.out BK213.out (by decide) (.int .i64 t201) (.int .u64 t202) (.int .i64 t203) (.int .i64 t204) (.int .u32 t205) (.slice Ao39 t206.length co39) (.slice Ao40 t209.length co40)))) hg hat); have n2_ := Aside0.mk (Kd.R_after (Kd.R_apart_nil (Far.Ra (Far.far7 HO195.out BK213.out (by decide) (.int .i64 t201) (.int .u64 t202) (.int .i64 t203) (.int .i64 t204) (.int .u32 t205) (.slice Ao39 t206.length co39) (.slice Ao40 t209.length co40)))) hg hat); have n3_ := Aside0.mk (Kd.R_grown (Far.Ra (Far.far7 HO208.out BK213.out (by decide) (.int .i64 t201) (.int .u64 t202) (.int .i64 t203) (.int .i64 t204) (.int .u32 t205) (.slice Ao39 t206.length co39) (.slice Ao40 t209.length co40))) hg (fun _ _ => by simp [Value.ownBlock])); have n4_ := Aside0.mk (Kd.R_after (Kd.R_apart_nil (Far.Ra (Far.far7 HO211.out BK213.out (by decide) (.int .i64 t201) (.int .u64 t202) (.int .i64 t203) (.int .i64 t204) (.int .u32 t205) (.slice Ao39 t206.length co39) (.slice Ao40 t209.length co40)))) hg hat); have n5_ := Aside0.mk (blk_grown (g := gb213) (o := .cells #[.int .i64 t201, .int .u64 t202, .int .i64 t203, .int .i64 t204, .int .u32 t205, .slice Ao39 t206.length co39, .slice Ao40 t209.length co40] 96 (0, 0)) (by (with_reducible repeat (first | refine blk_drewN ?_ _ | refine blk_drew ?_ | refine blk_alloc ?_ _)); refine blk_put (cs := #[.int .i64 t201, .int .u64 t202, .int .i64 t203, .int .i64 t204, .int .u32 t205, .slice Ao39 t206.length co39, .slice none 0 0]) ?_ 6 _ rfl; (with_reducible repeat (first | refine blk_drewN ?_ _ | refine blk_drew ?_ | refine blk_alloc ?_ _)); refine blk_put (cs := #[.int .i64 t201, .int .u64 t202, .int .i64 t203, .int .i64 t204, .int .u32 t205, .slice none 0 0, .slice none 0 0]) ?_ 5 _ rfl; (with_reducible repeat (first | refine blk_drewN ?_ _ | refine blk_drew ?_ | refine blk_alloc ?_ _)); refine blk_put (cs := #[.int .i64 t201, .int .u64 t202, .int .i64 t203, .int .i64 t204, .int .u32 0, .slice none 0 0, .slice none 0 0]) ?_ 4 _ rfl; (with_reducible repeat (first | refine blk_drewN ?_ _ | refine blk_drew ?_ | refine blk_alloc ?_ _)); refine blk_put (cs := #[.int .i64 t201, .int .u64 t202, .int .i64 t203, .int .i64 0, .int .u32 0, .slice none 0 0, .slice none 0 0]) ?_ 3 _ rfl; (with_reducible repeat (first | refine blk_drewN ?_ _ | refine blk_drew ?_ | refine blk_alloc ?_ _)); refine blk_put (cs := #[.int .i64 t201, .int .u64 t202, .int .i64 0, .int .i64 0, .int .u32 0, .slice none 0 0, .slice none 0 0]) ?_ 2 _ rfl; (with_reducible repeat (first | refine blk_drewN ?_ _ | refine blk_drew ?_ | refine blk_alloc ?_ _)); refine blk_put (cs := #[.int .i64 t201, .int .u64 0, .int .i64 0, .int .i64 0, .int .u32 0, .slice none 0 0, .slice none 0 0]) ?_ 1 _ rfl; (with_reducible repeat (first | refine blk_drewN ?_ _ | refine blk_drew ?_ | refine blk_alloc ?_ _)); refine blk_put (cs := #[.int .i64 0, .int .u64 0, .int .i64 0, .int .i64 0, .int .u32 0, .slice none 0 0, .slice none 0 0]) ?_ 0 _ rfl; (with_reducible repeat (first | refine blk_drewN ?_ _ | refine blk_drew ?_ | refine blk_alloc ?_ _)); exact BK213.out) hg (by simp [Value.ownBlock])); have n6_ := Aside0.mk (hb); have n7_ := Aside0.mk ((show Kd.C (Kd.int .u8) w41 Ao34 y197.length y197 from by rw [Ny197.out]; exact Kd.C_take (m := ((ji15) : Int).toNat) ((Kd.R_reads' (Kd.R_after (Kd.R_apart_nil (Far.Ra (Far.far7 HO195.out BK213.out (by decide) (.int .i64 t201) (.int .u64 t202) (.int .i64 t203) (.int .i64 t204) (.int .u32 t205) (.slice Ao39 t206.length co39) (.slice Ao40 t209.length co40)))) hg hat)).2.2) KL35.out)); have n8_ := Aside0.mk (ho); clear HO189 HO192 HO195 HO208 HO211 BK213 HB HR200; have HO189 := n0_; have HO192 := n1_; have HO195 := n2_; have HO208 := n3_; have HO211 := n4_; have BK213 := n5_; have HB := n6_; have HR200 := n7_; have HO216 := n8_; clear n0_ n1_ n2_ n3_ n4_ n5_ n6_ n7_ n8_; clear ho hb hg hat) | ((with_reducible refine gate_builtin (b := .append) (xs := #[.tmp 45, .tmp 47]) rfl ?_); (try (refine gate_guard (by rfl) ?_; dsimp only)); at_builtin; refine Kd.R_append (Kd.int .u8) (w0 := w) w.heap.size rfl (.tmp 45) (.tmp 47) 29 5 (.int .u8 0) 1 rfl Try.underlying29 info5 rfl (by decide) (by omega) v215 y214 a5 [.int .u8 a5] (fun k_ => some k_ ≠ (.slice Ao32 t190.length co32 : Value).ownBlock ∧ some k_ ≠ (.slice Ao34 t193.length co34 : Value).ownBlock ∧ some k_ ≠ (.slice Ao40 t209.length co40 : Value).ownBlock) (fun _ => False) rfl rfl ?aP (fun _ hk => hk.elim) ?aF ?aO ?aB ?aS ?aL ?_; (case aP => exact rfl); (case aB => exact (by repeat (first | (with_reducible first | exact HB.out | apply below_alloc | apply pw_below_drewN | apply below_drew1 | refine below_set ?_ GE213.out) | exact HB.out))); (case aF => exact (fun k_ hk => ⟨Kd.fresh' (Kd.R_lt (Far.Ra HO192.out)) k_ hk, Kd.fresh' (Kd.R_lt (Far.Ra HO195.out)) k_ hk, Kd.fresh' (Kd.R_lt (Far.Ra HO211.out)) k_ hk⟩)); (case aO => exact (Far.Ra HO216.out)); (case aS => exact (below_size (by repeat (first | (with_reducible first | exact HB.out | apply below_alloc | apply pw_below_drewN | apply below_drew1 | refine below_set ?_ GE213.out) | exact HB.out)))); (case aL => have := LMc20.out; omega); intro v218 w42 ho hb hg hat; rw [← Ny217.out] at ho; have n0_ := Aside0.mk (Kd.R_over' (Far.Ra HO189.out) (Kd.R_typed (Far.Ra HO216.out)) (by decide) hg); have n1_ := Aside0.mk (Kd.R_after (ok := (fun k_ => some k_ ≠ (.slice Ao34 t193.length co34 : Value).ownBlock ∧ some k_ ≠ (.slice Ao40 t209.length co40 : Value).ownBlock)) (Far.Ra (Kd.R_mono HO192.out (fun _ hk => ⟨⟨hk.1.1.2, hk.1.2⟩, hk.2⟩))) hg hat); have n2_ := Aside0.mk (Kd.R_after (ok := (fun k_ => some k_ ≠ (.slice Ao32 t190.length co32 : Value).ownBlock ∧ some k_ ≠ (.slice Ao40 t209.length co40 : Value).ownBlock)) (Far.Ra (Kd.R_mono HO195.out (fun _ hk => ⟨⟨hk.1.1.2, hk.1.2⟩, hk.2⟩))) hg hat); have n3_ := Aside0.mk (Kd.R_over' (Far.Ra HO208.out) (Kd.R_typed (Far.Ra HO216.out)) (by decide) hg); have n4_ := Aside0.mk (Kd.R_after (ok := (fun k_ => some k_ ≠ (.slice Ao32 t190.length co32 : Value).ownBlock ∧ some k_ ≠ (.slice Ao34 t193.length co34 : Value).ownBlock)) (Far.Ra (Kd.R_mono HO211.out (fun _ hk => ⟨⟨hk.1.1.2, hk.1.2⟩, hk.2⟩))) hg hat); have n5_ := Aside0.mk (blk_grown (g := gb213) (o := .cells #[.int .i64 t201, .int .u64 t202, .int .i64 t203, .int .i64 t204, .int .u32 t205, .slice Ao39 t206.length co39, .slice Ao40 t209.length co40] 96 (0, 0)) (Far.Ba BK213.out) hg (Kd.R_ne HO216.out BK213.out (by decide))); have n6_ := Aside0.mk (hb); have n7_ := Aside0.mk ((show Kd.C (Kd.int .u8) w42 Ao34 y197.length y197 from by rw [Ny197.out]; exact Kd.C_take (m := ((ji15) : Int).toNat) ((Kd.R_reads' (Kd.R_after (ok := (fun k_ => some k_ ≠ (.slice Ao32 t190.length co32 : Value).ownBlock ∧ some k_ ≠ (.slice Ao40 t209.length co40 : Value).ownBlock)) (Far.Ra (Kd.R_mono HO195.out (fun _ hk => ⟨⟨hk.1.1.2, hk.1.2⟩, hk.2⟩))) hg hat)).2.2) KL35.out)); have n8_ := Aside0.mk (ho); clear HO189 HO192 HO195 HO208 HO211 BK213 HB HR200 HO216; have HO189 := n0_; have HO192 := n1_; have HO195 := n2_; have HO208 := n3_; have HO211 := n4_; have BK213 := n5_; have HB := n6_; have HR200 := n7_; have HO219 := n8_; clear n0_ n1_ n2_ n3_ n4_ n5_ n6_ n7_ n8_; clear ho hb hg hat; obtain ⟨Ao43, co43, eo43⟩ := Kd.R_slice HO219.out; subst eo43) | ((with_reducible refine gate_callee (f := 97) rfl ?_); refine goesL_ (some 51) rfl rfl Try.func97 (by kernel_rfl) rfl #[.slice Ao43 y217.length co43] rfl (by (try simp only [List.map_toArray, List.map_cons, List.map_nil]); first | done | rfl | (simp only [List.length_drop, List.length_take]; rfl)) ?_; (with_reducible refine (pack_Parse.calls k _ _ y217 t220 t221 t222 t223 t224 t225 t228 t231 _ ?side1 ?side2 A21.out).mono ?_); (case side1 => repeat (first | exact (Kd.R_reads' HO219.out).2.2 | (with_reducible refine Kd.C_alloc ?_ _) | (with_reducible refine Kd.C_drewN ?_ _) | (with_reducible refine Kd.C_drew ?_))); (case side2 => exact (Kd.R_reads' HO219.out).2.1); rintro e w44 ⟨v226, v229, rfl, ho0, ho1, hb⟩; refine ⟨_, rfl, ?_⟩; have n0_ := Aside0.mk (Kd.R_elder' (Far.Ra HO189.out) (Kd.R_base ho0) hb); have n1_ := Aside0.mk (Kd.R_elder' (Far.Ra HO192.out) (Kd.R_base ho1) hb); have n2_ := Aside0.mk (Kd.R_elder' (Far.Ra HO195.out) (Kd.R_base ho1) hb); have n3_ := Aside0.mk (Kd.R_elder' (Far.Ra HO208.out) (Kd.R_base ho0) hb); have n4_ := Aside0.mk (Kd.R_elder' (Far.Ra HO211.out) (Kd.R_base ho1) hb); have n5_ := Aside0.mk (Kd.R_elder' (Far.Ra HO219.out) (Kd.R_base ho1) hb); have n6_ := Aside0.mk (Kd.R_lower (Kd.R_new' (Kd.R_new' ho0 (Kd.R_lt (Far.Ra HO189.out))) (Kd.R_lt (Far.Ra HO208.out))) (below_size (by repeat (first | (with_reducible first | exact HB.out | apply below_alloc | apply pw_below_drewN | apply below_drew1 | refine below_set ?_ GE213.out) | exact HB.out)))); have n7_ := Aside0.mk (Kd.R_lower (Kd.R_new' (Kd.R_new' (Kd.R_new' (Kd.R_new' ho1 (Kd.R_lt (Far.Ra HO192.out))) (Kd.R_lt (Far.Ra HO195.out))) (Kd.R_lt (Far.Ra HO211.out))) (Kd.R_lt (Far.Ra HO219.out))) (below_size (by repeat (first | (with_reducible first | exact HB.out | apply below_alloc | apply pw_below_drewN | apply below_drew1 | refine below_set ?_ GE213.out) | exact HB.out)))); have n8_ := Aside0.mk (blk_below (g := gb213) (o := .cells #[.int .i64 t201, .int .u64 t202, .int .i64 t203, .int .i64 t204, .int .u32 t205, .slice Ao39 t206.length co39, .slice Ao40 t209.length co40] 96 (0, 0)) (Far.Ba BK213.out) hb); have n9_ := Aside0.mk (Kd.C_below (by repeat (first | (with_reducible exact HR200.out) | (with_reducible refine Kd.C_alloc ?_ _) | (with_reducible refine Kd.C_drewN ?_ _) | (with_reducible refine Kd.C_drew ?_) | exact HR200.out)) hb); have n10_ := Aside0.mk (below_step (by repeat (first | (with_reducible first | exact HB.out | apply below_alloc | apply pw_below_drewN | apply below_drew1 | refine below_set ?_ GE213.out) | exact HB.out)) hb); clear HO189 HO192 HO195 HO208 HO211 HO219 BK213 HR200 HB; have HO189 := n0_; have HO192 := n1_; have HO195 := n2_; have HO208 := n3_; have HO211 := n4_; have HO219 := n5_; have HO227 := n6_; have HO230 := n7_; have BK213 := n8_; have HR200 := n9_; have HB := n10_; clear n0_ n1_ n2_ n3_ n4_ n5_ n6_ n7_ n8_ n9_ n10_; (try clear hb); (try clear hb2); (try clear hk); (try clear hi); (try clear ho0); (try clear ho1)) | ((with_reducible refine gate_dst (N := 18) rfl ?_); (try (refine gate_guard (by rfl) ?_; dsimp only)); refine box_event ?hg (N := 18) ?hd (cs := #[.int .i64 0, .int .u64 0, .int .i64 0, .int .i64 0, .int .u32 0, .slice none 0 0, .slice none 0 0]) (t := 96) ?hr ?_; (case hd => rfl); (case hg => rfl); (case hr => first | (go_simp; done) | (go_simp; rfl)); intro gb232 hg w45 hbox hb; have n0_ := Aside0.mk (Kd.R_below (Far.Ra HO189.out) hb); have n1_ := Aside0.mk (Kd.R_below (Far.Ra HO192.out) hb); have n2_ := Aside0.mk (Kd.R_below (Far.Ra HO195.out) hb); have n3_ := Aside0.mk (Kd.R_below (Far.Ra HO208.out) hb); have n4_ := Aside0.mk (Kd.R_below (Far.Ra HO211.out) hb); have n5_ := Aside0.mk (Kd.R_below (Far.Ra HO219.out) hb); have n6_ := Aside0.mk (Kd.R_below (Far.Ra HO227.out) hb); have n7_ := Aside0.mk (Kd.R_below (Far.Ra HO230.out) hb); have n8_ := Aside0.mk (blk_below (g := gb213) (o := .cells #[.int .i64 t201, .int .u64 t202, .int .i64 t203, .int .i64 t204, .int .u32 t205, .slice Ao39 t206.length co39, .slice Ao40 t209.length co40] 96 (0, 0)) (Far.Ba BK213.out) hb); have n9_ := Aside0.mk (Kd.C_below (by repeat (first | (with_reducible exact HR200.out) | (with_reducible refine Kd.C_alloc ?_ _) | (with_reducible refine Kd.C_drewN ?_ _) | (with_reducible refine Kd.C_drew ?_) | exact HR200.out)) hb); have n10_ := Aside0.mk (below_step (by repeat (first | (with_reducible first | exact HB.out | apply below_alloc | apply pw_below_drewN | apply below_drew1 | refine below_set ?_ GE213.out) | exact HB.out)) hb); have n11_ := Aside0.mk (hbox); have n12_ := Aside0.mk ((by rw [hg]; exact (below_size (by repeat (first | (with_reducible first | exact HB.out | apply below_alloc | apply pw_below_drewN | apply below_drew1 | refine below_set ?_ GE213.out) | exact HB.out))) : w.heap.size ≤ gb232)); have n13_ := Aside0.mk ((by rw [hg]; exact (below_size (by repeat (first | (with_reducible first | exact HB.out | apply below_alloc | apply pw_below_drewN | apply below_drew1 | refine below_set ?_ GE213.out) | exact HB.out))) : w.heap.size ≤ gb232)); have n14_ := Aside0.mk ((by rw [hg]; exact Nat.ne_of_lt (blk_lt (g := gb213) (o := .cells #[.int .i64 t201, .int .u64 t202, .int .i64 t203, .int .i64 t204, .int .u32 t205, .slice Ao39 t206.length co39, .slice Ao40 t209.length co40] 96 (0, 0)) (Far.Ba BK213.out)) : gb213 ≠ gb232)); have n15_ := Aside0.mk ((by rw [hg]; exact Nat.ne_of_gt (blk_lt (g := gb213) (o := .cells #[.int .i64 t201, .int .u64 t202, .int .i64 t203, .int .i64 t204, .int .u32 t205, .slice Ao39 t206.length co39, .slice Ao40 t209.length co40] 96 (0, 0)) (Far.Ba BK213.out)) : gb232 ≠ gb213)); clear HO189 HO192 HO195 HO208 HO211 HO219 HO227 HO230 BK213 HR200 HB; have HO189 := n0_; have HO192 := n1_; have HO195 := n2_; have HO208 := n3_; have HO211 := n4_; have HO219 := n5_; have HO227 := n6_; have HO230 := n7_; have BK213 := n8_; have HR200 := n9_; have HB := n10_; have BK232 := n11_; have GW232 := n12_; have GE232 := n13_; have NB213_232 := n14_; have NB232_213 := n15_; clear n0_ n1_ n2_ n3_ n4_ n5_ n6_ n7_ n8_ n9_ n10_ n11_ n12_ n13_ n14_ n15_; clear hb hbox hg; have hnb46 := NB232_213.out; have hnc46 := NB213_232.out; have hcz47_0 : w45.cell? ⟨gb232, 0, none⟩ = some (.int .i64 0) := (blk_cell BK232.out 0).trans rfl; have hcz47_1 : w45.cell? ⟨gb232, 1, none⟩ = some (.int .u64 0) := (blk_cell BK232.out 1).trans rfl; have hcz47_2 : w45.cell? ⟨gb232, 2, none⟩ = some (.int .i64 0) := (blk_cell BK232.out 2).trans rfl; have hcz47_3 : w45.cell? ⟨gb232, 3, none⟩ = some (.int .i64 0) := (blk_cell BK232.out 3).trans rfl; have hcz47_4 : w45.cell? ⟨gb232, 4, none⟩ = some (.int .u32 0) := (blk_cell BK232.out 4).trans rfl; have hcz47_5 : w45.cell? ⟨gb232, 5, none⟩ = some (.slice none 0 0) := (blk_cell BK232.out 5).trans rfl; have hcz47_6 : w45.cell? ⟨gb232, 6, none⟩ = some (.slice none 0 0) := (blk_cell BK232.out 6).trans rfl; have hfz47_0 := blk_frozen BK232.out 0; have hfz47_1 := blk_frozen BK232.out 1; have hfz47_2 := blk_frozen BK232.out 2; have hfz47_3 := blk_frozen BK232.out 3; have hfz47_4 := blk_frozen BK232.out 4; have hfz47_5 := blk_frozen BK232.out 5; have hfz47_6 := blk_frozen BK232.out 6; obtain ⟨Ao48, co48, eo48⟩ := Kd.R_slice HO227.out; subst eo48; obtain ⟨Ao49, co49, eo49⟩ := Kd.R_slice HO230.out; subst eo49))
                have n0_ : Aside0 (Kd.R (Kd.int .i64) 3 (((((((w45.setCell ⟨gb232, 0, none⟩ (.int .i64 t220)).setCell ⟨gb232, 1, none⟩ (.int .u64 t221)).setCell ⟨gb232, 2, none⟩ (.int .i64 t222)).setCell ⟨gb232, 3, none⟩ (.int .i64 t223)).setCell ⟨gb232, 4, none⟩ (.int .u32 t224)).setCell ⟨gb232, 5, none⟩ (.slice Ao48 t225.length co48)).setCell ⟨gb232, 6, none⟩ (.slice Ao49 t228.length co49)) w.heap.size (fun k_ => some k_ ≠ (.slice Ao39 t206.length co39 : Value).ownBlock ∧ some k_ ≠ (.slice Ao48 t225.length co48 : Value).ownBlock) (.slice Ao31 t187.length co31) t187) := ⟨by (with_reducible repeat (first | apply Kd.R_alloc | apply Kd.R_drewN | apply Kd.R_drew)); exact Kd.R_mono (Kd.R_far (p := ⟨gb232, 6, none⟩) (Kd.R_far (p := ⟨gb232, 5, none⟩) (Kd.R_far (p := ⟨gb232, 4, none⟩) (Kd.R_far (p := ⟨gb232, 3, none⟩) (Kd.R_far (p := ⟨gb232, 2, none⟩) (Kd.R_far (p := ⟨gb232, 1, none⟩) (Kd.R_far (p := ⟨gb232, 0, none⟩) (Kd.R_types HO189.out BK232.out (by decide)) (fun _ hk => hk.2) (.int .i64 t220)) (fun _ hk => hk.2) (.int .u64 t221)) (fun _ hk => hk.2) (.int .i64 t222)) (fun _ hk => hk.2) (.int .i64 t223)) (fun _ hk => hk.2) (.int .u32 t224)) (fun _ hk => hk.2) (.slice Ao48 t225.length co48)) (fun _ hk => hk.2) (.slice Ao49 t228.length co49)) (fun _ hk => ⟨hk.1.1.2, hk.1.2⟩)⟩
                have n1_ : Aside0 (Kd.R (Kd.int .u8) 5 (((((((w45.setCell ⟨gb232, 0, none⟩ (.int .i64 t220)).setCell ⟨gb232, 1, none⟩ (.int .u64 t221)).setCell ⟨gb232, 2, none⟩ (.int .i64 t222)).setCell ⟨gb232, 3, none⟩ (.int .i64 t223)).setCell ⟨gb232, 4, none⟩ (.int .u32 t224)).setCell ⟨gb232, 5, none⟩ (.slice Ao48 t225.length co48)).setCell ⟨gb232, 6, none⟩ (.slice Ao49 t228.length co49)) w.heap.size (fun k_ => some k_ ≠ (.slice Ao34 t193.length co34 : Value).ownBlock ∧ some k_ ≠ (.slice Ao40 t209.length co40 : Value).ownBlock ∧ some k_ ≠ (.slice Ao43 y217.length co43 : Value).ownBlock ∧ some k_ ≠ (.slice Ao49 t228.length co49 : Value).ownBlock) (.slice Ao32 t190.length co32) t190) := ⟨by (with_reducible repeat (first | apply Kd.R_alloc | apply Kd.R_drewN | apply Kd.R_drew)); exact Kd.R_mono (Kd.R_far (p := ⟨gb232, 6, none⟩) (Kd.R_far (p := ⟨gb232, 5, none⟩) (Kd.R_far (p := ⟨gb232, 4, none⟩) (Kd.R_far (p := ⟨gb232, 3, none⟩) (Kd.R_far (p := ⟨gb232, 2, none⟩) (Kd.R_far (p := ⟨gb232, 1, none⟩) (Kd.R_far (p := ⟨gb232, 0, none⟩) (Kd.R_types HO192.out BK232.out (by decide)) (fun _ hk => hk.2) (.int .i64 t220)) (fun _ hk => hk.2) (.int .u64 t221)) (fun _ hk => hk.2) (.int .i64 t222)) (fun _ hk => hk.2) (.int .i64 t223)) (fun _ hk => hk.2) (.int .u32 t224)) (fun _ hk => hk.2) (.slice Ao48 t225.length co48)) (fun _ hk => hk.2) (.slice Ao49 t228.length co49)) (fun _ hk => ⟨hk.1.1.1.1, ⟨hk.1.1.1.2, ⟨hk.1.1.2, hk.1.2⟩⟩⟩)⟩
                have n2_ : Aside0 (Kd.R (Kd.int .u8) 5 (((((((w45.setCell ⟨gb232, 0, none⟩ (.int .i64 t220)).setCell ⟨gb232, 1, none⟩ (.int .u64 t221)).setCell ⟨gb232, 2, none⟩ (.int .i64 t222)).setCell ⟨gb232, 3, none⟩ (.int .i64 t223)).setCell ⟨gb232, 4, none⟩ (.int .u32 t224)).setCell ⟨gb232, 5, none⟩ (.slice Ao48 t225.length co48)).setCell ⟨gb232, 6, none⟩ (.slice Ao49 t228.length co49)) w.heap.size (fun k_ => some k_ ≠ (.slice Ao32 t190.length co32 : Value).ownBlock ∧ some k_ ≠ (.slice Ao40 t209.length co40 : Value).ownBlock ∧ some k_ ≠ (.slice Ao43 y217.length co43 : Value).ownBlock ∧ some k_ ≠ (.slice Ao49 t228.length co49 : Value).ownBlock) (.slice Ao34 t193.length co34) t193) := ⟨by (with_reducible repeat (first | apply Kd.R_alloc | apply Kd.R_drewN | apply Kd.R_drew)); exact Kd.R_mono (Kd.R_far (p := ⟨gb232, 6, none⟩) (Kd.R_far (p := ⟨gb232, 5, none⟩) (Kd.R_far (p := ⟨gb232, 4, none⟩) (Kd.R_far (p := ⟨gb232, 3, none⟩) (Kd.R_far (p := ⟨gb232, 2, none⟩) (Kd.R_far (p := ⟨gb232, 1, none⟩) (Kd.R_far (p := ⟨gb232, 0, none⟩) (Kd.R_types HO195.out BK232.out (by decide)) (fun _ hk => hk.2) (.int .i64 t220)) (fun _ hk => hk.2) (.int .u64 t221)) (fun _ hk => hk.2) (.int .i64 t222)) (fun _ hk => hk.2) (.int .i64 t223)) (fun _ hk => hk.2) (.int .u32 t224)) (fun _ hk => hk.2) (.slice Ao48 t225.length co48)) (fun _ hk => hk.2) (.slice Ao49 t228.length co49)) (fun _ hk => ⟨hk.1.1.1.1, ⟨hk.1.1.1.2, ⟨hk.1.1.2, hk.1.2⟩⟩⟩)⟩
                have n3_ : Aside0 (Kd.R (Kd.int .i64) 3 (((((((w45.setCell ⟨gb232, 0, none⟩ (.int .i64 t220)).setCell ⟨gb232, 1, none⟩ (.int .u64 t221)).setCell ⟨gb232, 2, none⟩ (.int .i64 t222)).setCell ⟨gb232, 3, none⟩ (.int .i64 t223)).setCell ⟨gb232, 4, none⟩ (.int .u32 t224)).setCell ⟨gb232, 5, none⟩ (.slice Ao48 t225.length co48)).setCell ⟨gb232, 6, none⟩ (.slice Ao49 t228.length co49)) w.heap.size (fun k_ => some k_ ≠ (.slice Ao31 t187.length co31 : Value).ownBlock ∧ some k_ ≠ (.slice Ao48 t225.length co48 : Value).ownBlock) (.slice Ao39 t206.length co39) t206) := ⟨by (with_reducible repeat (first | apply Kd.R_alloc | apply Kd.R_drewN | apply Kd.R_drew)); exact Kd.R_mono (Kd.R_far (p := ⟨gb232, 6, none⟩) (Kd.R_far (p := ⟨gb232, 5, none⟩) (Kd.R_far (p := ⟨gb232, 4, none⟩) (Kd.R_far (p := ⟨gb232, 3, none⟩) (Kd.R_far (p := ⟨gb232, 2, none⟩) (Kd.R_far (p := ⟨gb232, 1, none⟩) (Kd.R_far (p := ⟨gb232, 0, none⟩) (Kd.R_types HO208.out BK232.out (by decide)) (fun _ hk => hk.2) (.int .i64 t220)) (fun _ hk => hk.2) (.int .u64 t221)) (fun _ hk => hk.2) (.int .i64 t222)) (fun _ hk => hk.2) (.int .i64 t223)) (fun _ hk => hk.2) (.int .u32 t224)) (fun _ hk => hk.2) (.slice Ao48 t225.length co48)) (fun _ hk => hk.2) (.slice Ao49 t228.length co49)) (fun _ hk => ⟨hk.1.1.2, hk.1.2⟩)⟩
                have n4_ : Aside0 (Kd.R (Kd.int .u8) 5 (((((((w45.setCell ⟨gb232, 0, none⟩ (.int .i64 t220)).setCell ⟨gb232, 1, none⟩ (.int .u64 t221)).setCell ⟨gb232, 2, none⟩ (.int .i64 t222)).setCell ⟨gb232, 3, none⟩ (.int .i64 t223)).setCell ⟨gb232, 4, none⟩ (.int .u32 t224)).setCell ⟨gb232, 5, none⟩ (.slice Ao48 t225.length co48)).setCell ⟨gb232, 6, none⟩ (.slice Ao49 t228.length co49)) w.heap.size (fun k_ => some k_ ≠ (.slice Ao32 t190.length co32 : Value).ownBlock ∧ some k_ ≠ (.slice Ao34 t193.length co34 : Value).ownBlock ∧ some k_ ≠ (.slice Ao43 y217.length co43 : Value).ownBlock ∧ some k_ ≠ (.slice Ao49 t228.length co49 : Value).ownBlock) (.slice Ao40 t209.length co40) t209) := ⟨by (with_reducible repeat (first | apply Kd.R_alloc | apply Kd.R_drewN | apply Kd.R_drew)); exact Kd.R_mono (Kd.R_far (p := ⟨gb232, 6, none⟩) (Kd.R_far (p := ⟨gb232, 5, none⟩) (Kd.R_far (p := ⟨gb232, 4, none⟩) (Kd.R_far (p := ⟨gb232, 3, none⟩) (Kd.R_far (p := ⟨gb232, 2, none⟩) (Kd.R_far (p := ⟨gb232, 1, none⟩) (Kd.R_far (p := ⟨gb232, 0, none⟩) (Kd.R_types HO211.out BK232.out (by decide)) (fun _ hk => hk.2) (.int .i64 t220)) (fun _ hk => hk.2) (.int .u64 t221)) (fun _ hk => hk.2) (.int .i64 t222)) (fun _ hk => hk.2) (.int .i64 t223)) (fun _ hk => hk.2) (.int .u32 t224)) (fun _ hk => hk.2) (.slice Ao48 t225.length co48)) (fun _ hk => hk.2) (.slice Ao49 t228.length co49)) (fun _ hk => ⟨hk.1.1.1.1, ⟨hk.1.1.1.2, ⟨hk.1.1.2, hk.1.2⟩⟩⟩)⟩
                have n5_ : Aside0 (Kd.R (Kd.int .u8) 5 (((((((w45.setCell ⟨gb232, 0, none⟩ (.int .i64 t220)).setCell ⟨gb232, 1, none⟩ (.int .u64 t221)).setCell ⟨gb232, 2, none⟩ (.int .i64 t222)).setCell ⟨gb232, 3, none⟩ (.int .i64 t223)).setCell ⟨gb232, 4, none⟩ (.int .u32 t224)).setCell ⟨gb232, 5, none⟩ (.slice Ao48 t225.length co48)).setCell ⟨gb232, 6, none⟩ (.slice Ao49 t228.length co49)) w.heap.size (fun k_ => some k_ ≠ (.slice Ao32 t190.length co32 : Value).ownBlock ∧ some k_ ≠ (.slice Ao34 t193.length co34 : Value).ownBlock ∧ some k_ ≠ (.slice Ao40 t209.length co40 : Value).ownBlock ∧ some k_ ≠ (.slice Ao49 t228.length co49 : Value).ownBlock) (.slice Ao43 y217.length co43) y217) := ⟨by (with_reducible repeat (first | apply Kd.R_alloc | apply Kd.R_drewN | apply Kd.R_drew)); exact Kd.R_mono (Kd.R_far (p := ⟨gb232, 6, none⟩) (Kd.R_far (p := ⟨gb232, 5, none⟩) (Kd.R_far (p := ⟨gb232, 4, none⟩) (Kd.R_far (p := ⟨gb232, 3, none⟩) (Kd.R_far (p := ⟨gb232, 2, none⟩) (Kd.R_far (p := ⟨gb232, 1, none⟩) (Kd.R_far (p := ⟨gb232, 0, none⟩) (Kd.R_types HO219.out BK232.out (by decide)) (fun _ hk => hk.2) (.int .i64 t220)) (fun _ hk => hk.2) (.int .u64 t221)) (fun _ hk => hk.2) (.int .i64 t222)) (fun _ hk => hk.2) (.int .i64 t223)) (fun _ hk => hk.2) (.int .u32 t224)) (fun _ hk => hk.2) (.slice Ao48 t225.length co48)) (fun _ hk => hk.2) (.slice Ao49 t228.length co49)) (fun _ hk => ⟨hk.1.1.1, ⟨hk.1.1.2.1, ⟨hk.1.1.2.2, hk.1.2⟩⟩⟩)⟩
                have n6_ : Aside0 (Kd.R (Kd.int .i64) 3 (((((((w45.setCell ⟨gb232, 0, none⟩ (.int .i64 t220)).setCell ⟨gb232, 1, none⟩ (.int .u64 t221)).setCell ⟨gb232, 2, none⟩ (.int .i64 t222)).setCell ⟨gb232, 3, none⟩ (.int .i64 t223)).setCell ⟨gb232, 4, none⟩ (.int .u32 t224)).setCell ⟨gb232, 5, none⟩ (.slice Ao48 t225.length co48)).setCell ⟨gb232, 6, none⟩ (.slice Ao49 t228.length co49)) w.heap.size (fun k_ => some k_ ≠ (.slice Ao31 t187.length co31 : Value).ownBlock ∧ some k_ ≠ (.slice Ao39 t206.length co39 : Value).ownBlock) (.slice Ao48 t225.length co48) t225) := ⟨by (with_reducible repeat (first | apply Kd.R_alloc | apply Kd.R_drewN | apply Kd.R_drew)); exact Kd.R_mono (Kd.R_far (p := ⟨gb232, 6, none⟩) (Kd.R_far (p := ⟨gb232, 5, none⟩) (Kd.R_far (p := ⟨gb232, 4, none⟩) (Kd.R_far (p := ⟨gb232, 3, none⟩) (Kd.R_far (p := ⟨gb232, 2, none⟩) (Kd.R_far (p := ⟨gb232, 1, none⟩) (Kd.R_far (p := ⟨gb232, 0, none⟩) (Kd.R_types HO227.out BK232.out (by decide)) (fun _ hk => hk.2) (.int .i64 t220)) (fun _ hk => hk.2) (.int .u64 t221)) (fun _ hk => hk.2) (.int .i64 t222)) (fun _ hk => hk.2) (.int .i64 t223)) (fun _ hk => hk.2) (.int .u32 t224)) (fun _ hk => hk.2) (.slice Ao48 t225.length co48)) (fun _ hk => hk.2) (.slice Ao49 t228.length co49)) (fun _ hk => ⟨hk.1.1.2, hk.1.2⟩)⟩
                have n7_ : Aside0 (Kd.R (Kd.int .u8) 5 (((((((w45.setCell ⟨gb232, 0, none⟩ (.int .i64 t220)).setCell ⟨gb232, 1, none⟩ (.int .u64 t221)).setCell ⟨gb232, 2, none⟩ (.int .i64 t222)).setCell ⟨gb232, 3, none⟩ (.int .i64 t223)).setCell ⟨gb232, 4, none⟩ (.int .u32 t224)).setCell ⟨gb232, 5, none⟩ (.slice Ao48 t225.length co48)).setCell ⟨gb232, 6, none⟩ (.slice Ao49 t228.length co49)) w.heap.size (fun k_ => some k_ ≠ (.slice Ao32 t190.length co32 : Value).ownBlock ∧ some k_ ≠ (.slice Ao34 t193.length co34 : Value).ownBlock ∧ some k_ ≠ (.slice Ao40 t209.length co40 : Value).ownBlock ∧ some k_ ≠ (.slice Ao43 y217.length co43 : Value).ownBlock) (.slice Ao49 t228.length co49) t228) := ⟨by (with_reducible repeat (first | apply Kd.R_alloc | apply Kd.R_drewN | apply Kd.R_drew)); exact Kd.R_mono (Kd.R_far (p := ⟨gb232, 6, none⟩) (Kd.R_far (p := ⟨gb232, 5, none⟩) (Kd.R_far (p := ⟨gb232, 4, none⟩) (Kd.R_far (p := ⟨gb232, 3, none⟩) (Kd.R_far (p := ⟨gb232, 2, none⟩) (Kd.R_far (p := ⟨gb232, 1, none⟩) (Kd.R_far (p := ⟨gb232, 0, none⟩) (Kd.R_types HO230.out BK232.out (by decide)) (fun _ hk => hk.2) (.int .i64 t220)) (fun _ hk => hk.2) (.int .u64 t221)) (fun _ hk => hk.2) (.int .i64 t222)) (fun _ hk => hk.2) (.int .i64 t223)) (fun _ hk => hk.2) (.int .u32 t224)) (fun _ hk => hk.2) (.slice Ao48 t225.length co48)) (fun _ hk => hk.2) (.slice Ao49 t228.length co49)) (fun _ hk => ⟨hk.1.1.1.1.2, ⟨hk.1.1.1.2, ⟨hk.1.1.2, hk.1.2⟩⟩⟩)⟩
                have n8_ : Aside0 ((((((((w45.setCell ⟨gb232, 0, none⟩ (.int .i64 t220)).setCell ⟨gb232, 1, none⟩ (.int .u64 t221)).setCell ⟨gb232, 2, none⟩ (.int .i64 t222)).setCell ⟨gb232, 3, none⟩ (.int .i64 t223)).setCell ⟨gb232, 4, none⟩ (.int .u32 t224)).setCell ⟨gb232, 5, none⟩ (.slice Ao48 t225.length co48)).setCell ⟨gb232, 6, none⟩ (.slice Ao49 t228.length co49)).heap[gb213]? = some (.cells #[.int .i64 t201, .int .u64 t202, .int .i64 t203, .int .i64 t204, .int .u32 t205, .slice Ao39 t206.length co39, .slice Ao40 t209.length co40] 96 (0, 0))) := ⟨by (with_reducible repeat (first | refine blk_drewN ?_ _ | refine blk_drew ?_ | refine blk_alloc ?_ _)); refine blk_far ?_ NB213_232.out _; (with_reducible repeat (first | refine blk_drewN ?_ _ | refine blk_drew ?_ | refine blk_alloc ?_ _)); refine blk_far ?_ NB213_232.out _; (with_reducible repeat (first | refine blk_drewN ?_ _ | refine blk_drew ?_ | refine blk_alloc ?_ _)); refine blk_far ?_ NB213_232.out _; (with_reducible repeat (first | refine blk_drewN ?_ _ | refine blk_drew ?_ | refine blk_alloc ?_ _)); refine blk_far ?_ NB213_232.out _; (with_reducible repeat (first | refine blk_drewN ?_ _ | refine blk_drew ?_ | refine blk_alloc ?_ _)); refine blk_far ?_ NB213_232.out _; (with_reducible repeat (first | refine blk_drewN ?_ _ | refine blk_drew ?_ | refine blk_alloc ?_ _)); refine blk_far ?_ NB213_232.out _; (with_reducible repeat (first | refine blk_drewN ?_ _ | refine blk_drew ?_ | refine blk_alloc ?_ _)); refine blk_far ?_ NB213_232.out _; (with_reducible repeat (first | refine blk_drewN ?_ _ | refine blk_drew ?_ | refine blk_alloc ?_ _)); exact BK213.out⟩
                have n9_ : Aside0 ((((((((w45.setCell ⟨gb232, 0, none⟩ (.int .i64 t220)).setCell ⟨gb232, 1, none⟩ (.int .u64 t221)).setCell ⟨gb232, 2, none⟩ (.int .i64 t222)).setCell ⟨gb232, 3, none⟩ (.int .i64 t223)).setCell ⟨gb232, 4, none⟩ (.int .u32 t224)).setCell ⟨gb232, 5, none⟩ (.slice Ao48 t225.length co48)).setCell ⟨gb232, 6, none⟩ (.slice Ao49 t228.length co49)).heap[gb232]? = some (.cells #[.int .i64 t220, .int .u64 t221, .int .i64 t222, .int .i64 t223, .int .u32 t224, .slice Ao48 t225.length co48, .slice Ao49 t228.length co49] 96 (0, 0))) := ⟨by (with_reducible repeat (first | refine blk_drewN ?_ _ | refine blk_drew ?_ | refine blk_alloc ?_ _)); refine blk_put (cs := #[.int .i64 t220, .int .u64 t221, .int .i64 t222, .int .i64 t223, .int .u32 t224, .slice Ao48 t225.length co48, .slice none 0 0]) ?_ 6 _ rfl; (with_reducible repeat (first | refine blk_drewN ?_ _ | refine blk_drew ?_ | refine blk_alloc ?_ _)); refine blk_put (cs := #[.int .i64 t220, .int .u64 t221, .int .i64 t222, .int .i64 t223, .int .u32 t224, .slice none 0 0, .slice none 0 0]) ?_ 5 _ rfl; (with_reducible repeat (first | refine blk_drewN ?_ _ | refine blk_drew ?_ | refine blk_alloc ?_ _)); refine blk_put (cs := #[.int .i64 t220, .int .u64 t221, .int .i64 t222, .int .i64 t223, .int .u32 0, .slice none 0 0, .slice none 0 0]) ?_ 4 _ rfl; (with_reducible repeat (first | refine blk_drewN ?_ _ | refine blk_drew ?_ | refine blk_alloc ?_ _)); refine blk_put (cs := #[.int .i64 t220, .int .u64 t221, .int .i64 t222, .int .i64 0, .int .u32 0, .slice none 0 0, .slice none 0 0]) ?_ 3 _ rfl; (with_reducible repeat (first | refine blk_drewN ?_ _ | refine blk_drew ?_ | refine blk_alloc ?_ _)); refine blk_put (cs := #[.int .i64 t220, .int .u64 t221, .int .i64 0, .int .i64 0, .int .u32 0, .slice none 0 0, .slice none 0 0]) ?_ 2 _ rfl; (with_reducible repeat (first | refine blk_drewN ?_ _ | refine blk_drew ?_ | refine blk_alloc ?_ _)); refine blk_put (cs := #[.int .i64 t220, .int .u64 0, .int .i64 0, .int .i64 0, .int .u32 0, .slice none 0 0, .slice none 0 0]) ?_ 1 _ rfl; (with_reducible repeat (first | refine blk_drewN ?_ _ | refine blk_drew ?_ | refine blk_alloc ?_ _)); refine blk_put (cs := #[.int .i64 0, .int .u64 0, .int .i64 0, .int .i64 0, .int .u32 0, .slice none 0 0, .slice none 0 0]) ?_ 0 _ rfl; (with_reducible repeat (first | refine blk_drewN ?_ _ | refine blk_drew ?_ | refine blk_alloc ?_ _)); exact BK232.out⟩
                have n10_ : Aside0 (Below w.heap.size w (((((((w45.setCell ⟨gb232, 0, none⟩ (.int .i64 t220)).setCell ⟨gb232, 1, none⟩ (.int .u64 t221)).setCell ⟨gb232, 2, none⟩ (.int .i64 t222)).setCell ⟨gb232, 3, none⟩ (.int .i64 t223)).setCell ⟨gb232, 4, none⟩ (.int .u32 t224)).setCell ⟨gb232, 5, none⟩ (.slice Ao48 t225.length co48)).setCell ⟨gb232, 6, none⟩ (.slice Ao49 t228.length co49))) := ⟨by repeat (first | (with_reducible first | exact HB.out | apply below_alloc | apply pw_below_drewN | apply below_drew1 | refine below_set ?_ GE213.out | refine below_set ?_ GE232.out) | exact HB.out)⟩
                (try clear HO189)
                (try clear HO192)
                (try clear HO195)
                (try clear HO208)
                (try clear HO211)
                (try clear HO219)
                (try clear HO227)
                (try clear HO230)
                (try clear BK213)
                (try clear BK232)
                (try clear HB)
                generalize (((((((w45.setCell ⟨gb232, 0, none⟩ (.int .i64 t220)).setCell ⟨gb232, 1, none⟩ (.int .u64 t221)).setCell ⟨gb232, 2, none⟩ (.int .i64 t222)).setCell ⟨gb232, 3, none⟩ (.int .i64 t223)).setCell ⟨gb232, 4, none⟩ (.int .u32 t224)).setCell ⟨gb232, 5, none⟩ (.slice Ao48 t225.length co48)).setCell ⟨gb232, 6, none⟩ (.slice Ao49 t228.length co49)) = w50 at n0_ n1_ n2_ n3_ n4_ n5_ n6_ n7_ n8_ n9_ n10_ ⊢
                have HO189 := n0_
                have HO192 := n1_
                have HO195 := n2_
                have HO208 := n3_
                have HO211 := n4_
                have HO219 := n5_
                have HO227 := n6_
                have HO230 := n7_
                have BK213 := n8_
                have BK232 := n9_
                have HB := n10_
                clear n0_ n1_ n2_ n3_ n4_ n5_ n6_ n7_ n8_ n9_ n10_
                have n0_ := Aside0.mk (Kd.R_drew HO189.out)
                have n1_ := Aside0.mk (Kd.R_drew HO192.out)
                have n2_ := Aside0.mk (Kd.R_drew HO195.out)
                have n3_ := Aside0.mk (Kd.R_drew HO208.out)
                have n4_ := Aside0.mk (Kd.R_drew HO211.out)
                have n5_ := Aside0.mk (Kd.R_drew HO219.out)
                have n6_ := Aside0.mk (Kd.R_drew HO227.out)
                have n7_ := Aside0.mk (Kd.R_drew HO230.out)
                have n8_ := Aside0.mk (blk_drew BK213.out)
                have n9_ := Aside0.mk (blk_drew BK232.out)
                have n10_ := Aside0.mk (below_drew1 HB.out)
                clear HO189 HO192 HO195 HO208 HO211 HO219 HO227 HO230 BK213 BK232 HB
                have HO189 := n0_
                have HO192 := n1_
                have HO195 := n2_
                have HO208 := n3_
                have HO211 := n4_
                have HO219 := n5_
                have HO227 := n6_
                have HO230 := n7_
                have BK213 := n8_
                have BK232 := n9_
                have HB := n10_
                clear n0_ n1_ n2_ n3_ n4_ n5_ n6_ n7_ n8_ n9_ n10_
                have H := HH_.out
                clear HH_
                by_cases c25 : t231 = 0
                · rw [if_pos c25] at H
                  have c25b0 : (t231 == 0) = true := beq_iff_eq.mpr c25
                  have c25b1 : (t231 != 0) = false := bne_eq_false_iff_eq.mpr c25
                  clear c25
                  obtain ⟨ji26, hji26⟩ : ∃ j_ : Int, (wrap64 ((y217.length : Int) - 4)) = j_ := ⟨_, rfl⟩
                  replace H : (if 0 ≤ (ji26) then (if (ji26) ≤ (y217.length : Int) then ((scullerref02_Seal.f k (y217.take ((ji26) : Int).toNat)).bind fun t238 => (some ((strOfNums t238).toList == (strOfNums y217).toList))) else (none)) else (none)) = some r := by first | (rw [hji26] at H; exact H) | (simp only [hji26] at H ⊢; exact H)
                  (try rw [hji26] at A7)
                  (try rw [hji26] at A8)
                  (try rw [hji26] at A18)
                  (try rw [hji26] at A21)
                  (try rw [hji26] at A22)
                  have hji26w : (IntKind.i64.wrap ((y217.length : Int) - 4)) = ji26 := (i64_w _).trans hji26
                  by_cases c27 : 0 ≤ (ji26)
                  · rw [if_pos c27] at H
                    have c27b0 := eq_true c27
                    have c27b1 : decide (0 ≤ (ji26)) = true := decide_eq_true c27
                    clear c27
                    by_cases c28 : (ji26) ≤ (y217.length : Int)
                    · rw [if_pos c28] at H
                      have c28b0 := eq_true c28
                      have c28b1 : decide ((ji26) ≤ (y217.length : Int)) = true := decide_eq_true c28
                      clear c28
                      obtain ⟨y234, hy234⟩ : ∃ y_ : List Int, y_ = (y217.take ((ji26) : Int).toNat) := ⟨_, rfl⟩
                      replace H : ((scullerref02_Seal.f k y234).bind fun t238 => (some ((strOfNums t238).toList == (strOfNums y217).toList))) = some r := by first | (rw [hy234]; with_reducible exact H) | (have H2_ := (Option.bind_some _ _).symm.trans H; rw [hy234]; with_reducible exact H2_) | (have H2_ := (Option.bind_some _ _).symm.trans H; with_reducible exact H2_) | with_reducible exact H | (rw [hy234]; exact H) | exact H
                      have Ny234 := Aside0.mk hy234
                      clear hy234
                      replace H := Option.bind_eq_some_iff.mp H
                      obtain ⟨t238, A290, H⟩ := H
                      replace H : (some ((strOfNums t238).toList == (strOfNums y217).toList)) = some r := H
                      have A29 := Aside0.mk A290
                      clear A290
                      obtain rfl := Option.some.inj H
                      refine start_ (n := 27) (S := fun w' => True) (ds := []) (Far.bm 27 0) (by kernel_rfl) rfl rfl trivial (fun hHeld => ?_); refine with_tabW scullerlaw13_PackCut.tab9 scullerlaw13_PackCut.bits9 (fun HT_ HW_ => ?_)
                      generalize w50.drew = w51 at HO189 HO192 HO195 HO208 HO211 HO219 HO227 HO230 BK213 BK232 HB hHeld ⊢
                      refine one_ (i := 0) (N := some 54) (Far.bm 27 1) rfl rfl (one_of HT_.out (by kernel_rfl)) (by decide) (fun K hK => ?_)
                      refine goes_ Try.func99 (by kernel_rfl) rfl #[] (by rfl) rfl rfl (by (try simp only [List.map_toArray, List.map_cons, List.map_nil]); first | done | rfl | (simp only [List.length_drop, List.length_take]; rfl)) ?_
                      with_reducible refine (scullerlaw13_known.calls k  true _ A22.out).mono ?_
                      rintro e w52 ⟨rfl, hb⟩
                      refine ⟨_, rfl, ?_⟩
                      have n0_ := Aside0.mk (Kd.R_below (Far.Ra HO189.out) hb)
                      have n1_ := Aside0.mk (Kd.R_below (Far.Ra HO192.out) hb)
                      have n2_ := Aside0.mk (Kd.R_below (Far.Ra HO195.out) hb)
                      have n3_ := Aside0.mk (Kd.R_below (Far.Ra HO208.out) hb)
                      have n4_ := Aside0.mk (Kd.R_below (Far.Ra HO211.out) hb)
                      have n5_ := Aside0.mk (Kd.R_below (Far.Ra HO219.out) hb)
                      have n6_ := Aside0.mk (Kd.R_below (Far.Ra HO227.out) hb)
                      have n7_ := Aside0.mk (Kd.R_below (Far.Ra HO230.out) hb)
                      have n8_ := Aside0.mk (blk_below (g := gb213) (o := .cells #[.int .i64 t201, .int .u64 t202, .int .i64 t203, .int .i64 t204, .int .u32 t205, .slice Ao39 t206.length co39, .slice Ao40 t209.length co40] 96 (0, 0)) (Far.Ba BK213.out) hb)
                      have n9_ := Aside0.mk (blk_below (g := gb232) (o := .cells #[.int .i64 t220, .int .u64 t221, .int .i64 t222, .int .i64 t223, .int .u32 t224, .slice Ao48 t225.length co48, .slice Ao49 t228.length co49] 96 (0, 0)) (Far.Ba BK232.out) hb)
                      have n10_ := Aside0.mk (below_step (by repeat (first | (with_reducible first | exact HB.out | apply below_alloc | apply pw_below_drewN | apply below_drew1 | refine below_set ?_ GE213.out | refine below_set ?_ GE232.out) | exact HB.out)) hb)
                      clear HO189 HO192 HO195 HO208 HO211 HO219 HO227 HO230 BK213 BK232 HB
                      have HO189 := n0_
                      have HO192 := n1_
                      have HO195 := n2_
                      have HO208 := n3_
                      have HO211 := n4_
                      have HO219 := n5_
                      have HO227 := n6_
                      have HO230 := n7_
                      have BK213 := n8_
                      have BK232 := n9_
                      have HB := n10_
                      clear n0_ n1_ n2_ n3_ n4_ n5_ n6_ n7_ n8_ n9_ n10_
                      (try clear hb)
                      (try clear hb2)
                      (try clear hk)
                      (try clear hi)
                      have q53 : ((ji26) : Int) ≤ ((y217.length : Int) : Int) := of_decide_eq_true (by first | (with_reducible assumption) | assumption)
                      obtain ⟨i053, hi053, _, hsz53, _⟩ := info_parts info5
                      have hroom53 : y217.length ≤ co43 := (Kd.R_reads' HO219.out).2.1
                      have hC53 : Kd.C (Kd.int .u8) _ Ao43 y217.length y217 := (Kd.R_reads' HO219.out).2.2
                      have hcut53 := cut_to (P := Try.prog) 29 5 .i64 Try.underlying29 hi053 Ao43 y217.length co43 (ji26) (of_decide_eq_true (by first | (with_reducible assumption) | assumption)) q53 hroom53
                      have hr53 := Kd.C_take (m := ((ji26) : Int).toNat) hC53 (by omega)
                      have hy53 : y234.length = ((ji26) : Int).toNat := (by rw [Ny234.out, List.length_take]; omega)
                      rw [← Ny234.out] at hr53
                      rw [← hy53] at hcut53
                      have HR237 := Aside0.mk hr53
                      have HC237 := Aside0.mk (show y234.length ≤ co43 from by omega)
                      clear hr53 hC53 hroom53 hi053 hsz53
                      have KY53 := Aside0.mk hy53
                      clear hy53
                      have KL53 := Aside0.mk (show ((ji26) : Int).toNat ≤ y217.length from by omega)
                      replace q53 := eq_true q53
                      refine hK.out _ _ trivial (fun hHeld => ?_)
                      clear hK K
                      refine norm_ (a' := ?_) ?_ ?_
                      rotate_left
                      · show Act.put _ (some 54) _ = _
                        simp only [Act.put, List.setIfInBounds_toArray, List.set_cons_zero, List.set_cons_succ, i64_w, i32_w]
                        rfl
                      refine pure_ (i := 1) (N := some 55) (v := ?_) (a' := ?_) (Far.bm 27 3) rfl rfl (any_of HT_.out (by kernel_rfl)) (fun _ _ _ h => h) (Or.inl ⟨by rfl, ?_⟩) ?_ ?_; rotate_left; (intro w'; go_simp; with_reducible rfl); rotate_left; (simp only [Act.put, List.setIfInBounds_toArray, List.set_cons_zero, List.set_cons_succ, i64_w, i32_w]; rfl)
                      refine pure_ (i := 2) (N := some 56) (v := ?_) (a' := ?_) (Far.bm 27 7) rfl rfl (any_of HT_.out (by kernel_rfl)) (fun _ _ _ h => h) (Or.inl ⟨by rfl, ?_⟩) ?_ ?_; rotate_left; (intro w'; go_simp; with_reducible rfl); rotate_left; (simp only [Act.put, List.setIfInBounds_toArray, List.set_cons_zero, List.set_cons_succ, i64_w, i32_w]; rfl)
                      refine pure_ (i := 3) (N := some 57) (v := ?_) (a' := ?_) (Far.bm 27 15) rfl rfl (any_of HT_.out (by kernel_rfl)) (fun _ _ _ h => h) (Or.inl ⟨by rfl, ?_⟩) ?_ ?_; rotate_left; (intro w'; go_simp; with_reducible rfl); rotate_left; (simp only [Act.put, List.setIfInBounds_toArray, List.set_cons_zero, List.set_cons_succ, i64_w, i32_w]; rfl)
                      refine pure_ (i := 4) (N := some 58) (v := ?_) (a' := ?_) (Far.bm 27 31) rfl rfl (any_of HT_.out (by kernel_rfl)) (fun _ _ _ h => h) (Or.inl ⟨by rfl, ?_⟩) ?_ ?_; rotate_left; (intro w'; go_simp; with_reducible rfl); rotate_left; (simp only [Act.put, List.setIfInBounds_toArray, List.set_cons_zero, List.set_cons_succ, i64_w, i32_w]; rfl)
                      refine pure_ (i := 5) (N := some 59) (v := ?_) (a' := ?_) (Far.bm 27 63) rfl rfl (any_of HT_.out (by kernel_rfl)) (fun _ _ _ h => h) (Or.inl ⟨by rfl, ?_⟩) ?_ ?_; rotate_left; (intro w'; go_simp; with_reducible rfl); rotate_left; (simp only [Act.put, List.setIfInBounds_toArray, List.set_cons_zero, List.set_cons_succ, i64_w, i32_w]; rfl)
                      refine pure_ (i := 6) (N := some 60) (v := ?_) (a' := ?_) (Far.bm 27 127) rfl rfl (any_of HT_.out (by kernel_rfl)) (fun _ _ _ h => h) (Or.inl ⟨by rfl, ?_⟩) ?_ ?_; rotate_left; (intro w'; go_simp; with_reducible rfl); rotate_left; (simp only [Act.put, List.setIfInBounds_toArray, List.set_cons_zero, List.set_cons_succ, i64_w, i32_w]; rfl)
                      refine pure_ (i := 7) (N := some 61) (v := ?_) (a' := ?_) (Far.bm 27 255) rfl rfl (any_of HT_.out (by kernel_rfl)) (fun _ _ _ h => h) (Or.inl ⟨by rfl, ?_⟩) ?_ ?_; rotate_left; (intro w'; go_simp; with_reducible rfl); rotate_left; (simp only [Act.put, List.setIfInBounds_toArray, List.set_cons_zero, List.set_cons_succ, i64_w, i32_w]; rfl)
                      refine pure_ (i := 8) (N := some 62) (v := ?_) (a' := ?_) (Far.bm 27 511) rfl rfl (any_of HT_.out (by kernel_rfl)) (fun _ _ _ h => h) (Or.inl ⟨by rfl, ?_⟩) ?_ ?_; rotate_left; (intro w'; go_simp; with_reducible rfl); rotate_left; (simp only [Act.put, List.setIfInBounds_toArray, List.set_cons_zero, List.set_cons_succ, i64_w, i32_w]; rfl)
                      refine pure_ (i := 9) (N := some 63) (v := undef) (a' := ?_) (Far.bm 27 1023) rfl rfl (any_of HT_.out (by kernel_rfl)) (fun _ _ _ h => h) (Or.inr ⟨by rfl, rfl⟩) ?_ ?_
                      rotate_left
                      · simp only [Act.put, List.setIfInBounds_toArray, List.set_cons_zero, List.set_cons_succ, i64_w, i32_w]
                        rfl
                      refine pure_ (i := 10) (N := some 64) (v := undef) (a' := ?_) (Far.bm 27 2047) rfl rfl (any_of HT_.out (by kernel_rfl)) (fun _ _ _ h => h) (Or.inr ⟨by rfl, rfl⟩) ?_ ?_
                      rotate_left
                      · simp only [Act.put, List.setIfInBounds_toArray, List.set_cons_zero, List.set_cons_succ, i64_w, i32_w]
                        rfl
                      refine pure_ (i := 11) (N := some 65) (v := undef) (a' := ?_) (Far.bm 27 4095) rfl rfl (any_of HT_.out (by kernel_rfl)) (fun _ _ _ h => h) (Or.inr ⟨by rfl, rfl⟩) ?_ ?_
                      rotate_left
                      · simp only [Act.put, List.setIfInBounds_toArray, List.set_cons_zero, List.set_cons_succ, i64_w, i32_w]
                        rfl
                      refine pure_ (i := 12) (N := some 66) (v := ?_) (a' := ?_) (Far.bm 27 8191) rfl rfl (any_of HT_.out (by kernel_rfl)) (fun _ _ _ h => h) (Or.inl ⟨by rfl, ?_⟩) ?_ ?_; rotate_left; (intro w'; go_simp; with_reducible rfl); rotate_left; (simp only [Act.put, List.setIfInBounds_toArray, List.set_cons_zero, List.set_cons_succ, i64_w, i32_w]; rfl)
                      refine pure_ (i := 13) (N := some 67) (v := ?_) (a' := ?_) (Far.bm 27 16383) rfl rfl (any_of HT_.out (by kernel_rfl)) (fun _ _ _ h => h) (Or.inl ⟨by rfl, ?_⟩) ?_ ?_; rotate_left; (intro w'; go_simp; with_reducible rfl); rotate_left; (simp only [Act.put, List.setIfInBounds_toArray, List.set_cons_zero, List.set_cons_succ, i64_w, i32_w]; rfl)
                      refine pure_ (i := 14) (N := some 68) (v := ?_) (a' := ?_) (Far.bm 27 32767) rfl rfl (any_of HT_.out (by kernel_rfl)) (fun _ _ _ h => h) (Or.inl ⟨by rfl, ?_⟩) ?_ ?_; rotate_left; (intro w'; go_simp; with_reducible rfl); rotate_left; (simp only [Act.put, List.setIfInBounds_toArray, List.set_cons_zero, List.set_cons_succ, i64_w, i32_w]; rfl)
                      refine pure_ (i := 15) (N := some 69) (v := ?_) (a' := ?_) (Far.bm 27 65535) rfl rfl (any_of HT_.out (by kernel_rfl)) (fun _ _ _ h => h) (Or.inl ⟨by rfl, ?_⟩) ?_ ?_; rotate_left; (intro w'; go_simp; with_reducible rfl); rotate_left; (simp only [Act.put, List.setIfInBounds_toArray, List.set_cons_zero, List.set_cons_succ, i64_w, i32_w]; rfl)
                      refine pure_ (i := 16) (N := some 70) (v := ?_) (a' := ?_) (Far.bm 27 131071) rfl rfl (any_of HT_.out (by kernel_rfl)) (fun _ _ _ h => h) (Or.inl ⟨by rfl, ?_⟩) ?_ ?_; rotate_left; (intro w'; go_simp; with_reducible rfl); rotate_left; (simp only [Act.put, List.setIfInBounds_toArray, List.set_cons_zero, List.set_cons_succ, i64_w, i32_w]; rfl)
                      refine pure_ (i := 17) (N := some 71) (v := ?_) (a' := ?_) (Far.bm 27 262143) rfl rfl (any_of HT_.out (by kernel_rfl)) (fun _ _ _ h => h) (Or.inl ⟨by rfl, ?_⟩) ?_ ?_; rotate_left; (intro w'; go_simp; with_reducible rfl); rotate_left; (simp only [Act.put, List.setIfInBounds_toArray, List.set_cons_zero, List.set_cons_succ, i64_w, i32_w]; rfl)
                      refine pure_ (i := 18) (N := some 72) (v := ?_) (a' := ?_) (Far.bm 27 524287) rfl rfl (any_of HT_.out (by kernel_rfl)) (fun _ _ _ h => h) (Or.inl ⟨by rfl, ?_⟩) ?_ ?_; rotate_left; (intro w'; go_simp; with_reducible rfl); rotate_left; (simp only [Act.put, List.setIfInBounds_toArray, List.set_cons_zero, List.set_cons_succ, i64_w, i32_w]; rfl)
                      refine pure_ (i := 21) (N := some 75) (v := ?_) (a' := ?_) (Far.bm 27 2621439) rfl rfl (any_of HT_.out (by kernel_rfl)) (fun _ _ _ h => h) (Or.inl ⟨by rfl, ?_⟩) ?_ ?_; rotate_left; (intro w'; go_simp; with_reducible rfl); rotate_left; (simp only [Act.put, List.setIfInBounds_toArray, List.set_cons_zero, List.set_cons_succ, i64_w, i32_w]; rfl)
                      refine join_ (σ := Value) 4 (Far.bm 27 8388607) (fun s_ => [(73, s_), (74, .string (strOfNums t238)), (76, .string (strOfNums y217))]) (fun s_ w' => (Kd.R (Kd.int .i64) 3 w' w.heap.size (fun k_ => some k_ ≠ (.slice Ao39 t206.length co39 : Value).ownBlock ∧ some k_ ≠ (.slice Ao48 t225.length co48 : Value).ownBlock) (.slice Ao31 t187.length co31) t187) ∧ (Kd.R (Kd.int .u8) 5 w' w.heap.size (fun k_ => some k_ ≠ (.slice Ao34 t193.length co34 : Value).ownBlock ∧ some k_ ≠ (.slice Ao40 t209.length co40 : Value).ownBlock ∧ some k_ ≠ (.slice Ao43 y217.length co43 : Value).ownBlock ∧ some k_ ≠ (.slice Ao49 t228.length co49 : Value).ownBlock ∧ some k_ ≠ (s_ : Value).ownBlock) (.slice Ao32 t190.length co32) t190) ∧ (Kd.R (Kd.int .u8) 5 w' w.heap.size (fun k_ => some k_ ≠ (.slice Ao32 t190.length co32 : Value).ownBlock ∧ some k_ ≠ (.slice Ao40 t209.length co40 : Value).ownBlock ∧ some k_ ≠ (.slice Ao43 y217.length co43 : Value).ownBlock ∧ some k_ ≠ (.slice Ao49 t228.length co49 : Value).ownBlock ∧ some k_ ≠ (s_ : Value).ownBlock) (.slice Ao34 t193.length co34) t193) ∧ (Kd.R (Kd.int .i64) 3 w' w.heap.size (fun k_ => some k_ ≠ (.slice Ao31 t187.length co31 : Value).ownBlock ∧ some k_ ≠ (.slice Ao48 t225.length co48 : Value).ownBlock) (.slice Ao39 t206.length co39) t206) ∧ (Kd.R (Kd.int .u8) 5 w' w.heap.size (fun k_ => some k_ ≠ (.slice Ao32 t190.length co32 : Value).ownBlock ∧ some k_ ≠ (.slice Ao34 t193.length co34 : Value).ownBlock ∧ some k_ ≠ (.slice Ao43 y217.length co43 : Value).ownBlock ∧ some k_ ≠ (.slice Ao49 t228.length co49 : Value).ownBlock ∧ some k_ ≠ (s_ : Value).ownBlock) (.slice Ao40 t209.length co40) t209) ∧ (Kd.R (Kd.int .u8) 5 w' w.heap.size (fun k_ => some k_ ≠ (.slice Ao32 t190.length co32 : Value).ownBlock ∧ some k_ ≠ (.slice Ao34 t193.length co34 : Value).ownBlock ∧ some k_ ≠ (.slice Ao40 t209.length co40 : Value).ownBlock ∧ some k_ ≠ (.slice Ao49 t228.length co49 : Value).ownBlock ∧ some k_ ≠ (s_ : Value).ownBlock) (.slice Ao43 y217.length co43) y217) ∧ (Kd.R (Kd.int .i64) 3 w' w.heap.size (fun k_ => some k_ ≠ (.slice Ao31 t187.length co31 : Value).ownBlock ∧ some k_ ≠ (.slice Ao39 t206.length co39 : Value).ownBlock) (.slice Ao48 t225.length co48) t225) ∧ (Kd.R (Kd.int .u8) 5 w' w.heap.size (fun k_ => some k_ ≠ (.slice Ao32 t190.length co32 : Value).ownBlock ∧ some k_ ≠ (.slice Ao34 t193.length co34 : Value).ownBlock ∧ some k_ ≠ (.slice Ao40 t209.length co40 : Value).ownBlock ∧ some k_ ≠ (.slice Ao43 y217.length co43 : Value).ownBlock ∧ some k_ ≠ (s_ : Value).ownBlock) (.slice Ao49 t228.length co49) t228) ∧ (Kd.R (Kd.int .u8) 5 w' w.heap.size (fun k_ => some k_ ≠ (.slice Ao32 t190.length co32 : Value).ownBlock ∧ some k_ ≠ (.slice Ao34 t193.length co34 : Value).ownBlock ∧ some k_ ≠ (.slice Ao40 t209.length co40 : Value).ownBlock ∧ some k_ ≠ (.slice Ao43 y217.length co43 : Value).ownBlock ∧ some k_ ≠ (.slice Ao49 t228.length co49 : Value).ownBlock) s_ t238) ∧ (w'.heap[gb213]? = some (.cells #[.int .i64 t201, .int .u64 t202, .int .i64 t203, .int .i64 t204, .int .u32 t205, .slice Ao39 t206.length co39, .slice Ao40 t209.length co40] 96 (0, 0))) ∧ (w'.heap[gb232]? = some (.cells #[.int .i64 t220, .int .u64 t221, .int .i64 t222, .int .i64 t223, .int .u32 t224, .slice Ao48 t225.length co48, .slice Ao49 t228.length co49] 96 (0, 0))) ∧ (Below w.heap.size w w')) ?_ ?_
                      rotate_left
                      · intro hCont
                        refine two_ (i := 19) (j := 22) (Ni := some 73) (Nj := some 76) (Far.bm 27 3145727) (Far.bm 27 6815743) rfl rfl rfl rfl (two_of HT_.out (by kernel_rfl)) (by decide) (by decide) (fun K hK => ?_) (fun K hK => ?_)
                        · skip
                          refine goes_ Try.func51 (by kernel_rfl) rfl #[.slice Ao43 y234.length co43] (by rfl) rfl rfl (by (try simp only [List.map_toArray, List.map_cons, List.map_nil]); first | done | rfl | (simp only [List.length_drop, List.length_take]; rfl) | (simp only [KY53.out]; done) | (simp only [KY53.out]; rfl)) ?_
                          with_reducible refine (scullerref02_Seal.calls k _ _ y234 t238 _ ?side1 ?side2 A29.out).mono ?_
                          (case side1 => repeat (first | exact (by repeat (first | (with_reducible exact HR237.out) | (with_reducible refine Kd.C_alloc ?_ _) | (with_reducible refine Kd.C_drewN ?_ _) | (with_reducible refine Kd.C_drew ?_) | exact HR237.out)) | (with_reducible refine Kd.C_alloc ?_ _) | (with_reducible refine Kd.C_drewN ?_ _) | (with_reducible refine Kd.C_drew ?_)))
                          (case side2 => exact HC237.out)
                          rintro e w54 ⟨v239, rfl, ho0, hb⟩
                          refine ⟨_, rfl, ?_⟩
                          have n0_ := Aside0.mk (Kd.R_below (Far.Ra HO189.out) hb)
                          have n1_ := Aside0.mk (Kd.R_elder' (Far.Ra HO192.out) (Kd.R_base ho0) hb)
                          have n2_ := Aside0.mk (Kd.R_elder' (Far.Ra HO195.out) (Kd.R_base ho0) hb)
                          have n3_ := Aside0.mk (Kd.R_below (Far.Ra HO208.out) hb)
                          have n4_ := Aside0.mk (Kd.R_elder' (Far.Ra HO211.out) (Kd.R_base ho0) hb)
                          have n5_ := Aside0.mk (Kd.R_elder' (Far.Ra HO219.out) (Kd.R_base ho0) hb)
                          have n6_ := Aside0.mk (Kd.R_below (Far.Ra HO227.out) hb)
                          have n7_ := Aside0.mk (Kd.R_elder' (Far.Ra HO230.out) (Kd.R_base ho0) hb)
                          have n8_ := Aside0.mk (Kd.R_lower (Kd.R_new' (Kd.R_new' (Kd.R_new' (Kd.R_new' (Kd.R_new' ho0 (Kd.R_lt (Far.Ra HO192.out))) (Kd.R_lt (Far.Ra HO195.out))) (Kd.R_lt (Far.Ra HO211.out))) (Kd.R_lt (Far.Ra HO219.out))) (Kd.R_lt (Far.Ra HO230.out))) (below_size (by repeat (first | (with_reducible first | exact HB.out | apply below_alloc | apply pw_below_drewN | apply below_drew1 | refine below_set ?_ GE213.out | refine below_set ?_ GE232.out) | exact HB.out))))
                          have n9_ := Aside0.mk (blk_below (g := gb213) (o := .cells #[.int .i64 t201, .int .u64 t202, .int .i64 t203, .int .i64 t204, .int .u32 t205, .slice Ao39 t206.length co39, .slice Ao40 t209.length co40] 96 (0, 0)) (Far.Ba BK213.out) hb)
                          have n10_ := Aside0.mk (blk_below (g := gb232) (o := .cells #[.int .i64 t220, .int .u64 t221, .int .i64 t222, .int .i64 t223, .int .u32 t224, .slice Ao48 t225.length co48, .slice Ao49 t228.length co49] 96 (0, 0)) (Far.Ba BK232.out) hb)
                          have n11_ := Aside0.mk (Kd.C_below (by repeat (first | (with_reducible exact HR237.out) | (with_reducible refine Kd.C_alloc ?_ _) | (with_reducible refine Kd.C_drewN ?_ _) | (with_reducible refine Kd.C_drew ?_) | exact HR237.out)) hb)
                          have n12_ := Aside0.mk (below_step (by repeat (first | (with_reducible first | exact HB.out | apply below_alloc | apply pw_below_drewN | apply below_drew1 | refine below_set ?_ GE213.out | refine below_set ?_ GE232.out) | exact HB.out)) hb)
                          clear HO189 HO192 HO195 HO208 HO211 HO219 HO227 HO230 BK213 BK232 HR237 HB
                          have HO189 := n0_
                          have HO192 := n1_
                          have HO195 := n2_
                          have HO208 := n3_
                          have HO211 := n4_
                          have HO219 := n5_
                          have HO227 := n6_
                          have HO230 := n7_
                          have HO240 := n8_
                          have BK213 := n9_
                          have BK232 := n10_
                          have HR237 := n11_
                          have HB := n12_
                          clear n0_ n1_ n2_ n3_ n4_ n5_ n6_ n7_ n8_ n9_ n10_ n11_ n12_
                          (try clear hb)
                          (try clear hb2)
                          (try clear hk)
                          (try clear hi)
                          (try clear ho0)
                          refine hK.out _ _ trivial (fun hHeld => ?_)
                          clear hK K
                          refine norm_ (a' := ?_) ?_ ?_
                          rotate_left
                          · show Act.put _ (some 73) _ = _
                            simp only [Act.put, List.setIfInBounds_toArray, List.set_cons_zero, List.set_cons_succ, i64_w, i32_w]
                            rfl
                          refine two_ (i := 20) (j := 22) (Ni := some 74) (Nj := some 76) (Far.bm 27 4194303) (Far.bm 27 7340031) rfl rfl rfl rfl (two_of HT_.out (by kernel_rfl)) (by decide) (by decide) (fun K hK => ?_) (fun K hK => ?_)
                          · skip
                            have hcv55 := own_string (P := Try.prog) Try.underlying29 Try.underlying5 Try.underlying9 (Kd.own_of_R HO240.out)
                            refine value_ (w1 := ?_) (v := ?_) (by rfl) rfl ?_ ?_
                            rotate_left 2
                            · go_simp
                              constructor
                              · rfl
                              · rfl
                            clear hcv55
                            refine hK.out _ _ trivial (fun hHeld => ?_)
                            clear hK K
                            refine norm_ (a' := ?_) ?_ ?_
                            rotate_left
                            · show Act.put _ (some 74) _ = _
                              simp only [Act.put, List.setIfInBounds_toArray, List.set_cons_zero, List.set_cons_succ, i64_w, i32_w]
                              rfl
                            refine one_ (i := 22) (N := some 76) (Far.bm 27 8388607) rfl rfl (one_of HT_.out (by kernel_rfl)) (by decide) (fun K hK => ?_)
                            have hcv56 := own_string (P := Try.prog) Try.underlying29 Try.underlying5 Try.underlying9 (Kd.own_of_R HO219.out)
                            refine value_ (w1 := ?_) (v := ?_) (by rfl) rfl ?_ ?_
                            rotate_left 2
                            · go_simp
                              constructor
                              · rfl
                              · rfl
                            clear hcv56
                            refine hK.out _ _ trivial (fun hHeld => ?_)
                            clear hK K
                            refine norm_ (a' := ?_) ?_ ?_
                            rotate_left
                            · show Act.put _ (some 76) _ = _
                              simp only [Act.put, List.setIfInBounds_toArray, List.set_cons_zero, List.set_cons_succ, i64_w, i32_w]
                              rfl
                            exact norm_ (by simp only [putAll, Act.put, List.setIfInBounds_toArray, List.set_cons_zero, List.set_cons_succ]) (hCont (v239) _ ⟨(Far.Ra HO189.out), (Far.Ra (Kd.R_mono HO192.out (fun _ hk => ⟨hk.1.1, ⟨hk.1.2.1, ⟨hk.1.2.2.1, ⟨hk.1.2.2.2, hk.2⟩⟩⟩⟩))), (Far.Ra (Kd.R_mono HO195.out (fun _ hk => ⟨hk.1.1, ⟨hk.1.2.1, ⟨hk.1.2.2.1, ⟨hk.1.2.2.2, hk.2⟩⟩⟩⟩))), (Far.Ra HO208.out), (Far.Ra (Kd.R_mono HO211.out (fun _ hk => ⟨hk.1.1, ⟨hk.1.2.1, ⟨hk.1.2.2.1, ⟨hk.1.2.2.2, hk.2⟩⟩⟩⟩))), (Far.Ra (Kd.R_mono HO219.out (fun _ hk => ⟨hk.1.1, ⟨hk.1.2.1, ⟨hk.1.2.2.1, ⟨hk.1.2.2.2, hk.2⟩⟩⟩⟩))), (Far.Ra HO227.out), (Far.Ra (Kd.R_mono HO230.out (fun _ hk => ⟨hk.1.1, ⟨hk.1.2.1, ⟨hk.1.2.2.1, ⟨hk.1.2.2.2, hk.2⟩⟩⟩⟩))), (Far.Ra (Kd.R_mono HO240.out (fun _ hk => ⟨hk.1.1.1.1.2, ⟨hk.1.1.1.2, ⟨hk.1.1.2, ⟨hk.1.2, hk.2⟩⟩⟩⟩))), (Far.Ba BK213.out), (Far.Ba BK232.out), (by repeat (first | (with_reducible first | exact HB.out | apply below_alloc | apply pw_below_drewN | apply below_drew1 | refine below_set ?_ GE213.out | refine below_set ?_ GE232.out) | exact HB.out))⟩)
                          · skip
                            have hcv55 := own_string (P := Try.prog) Try.underlying29 Try.underlying5 Try.underlying9 (Kd.own_of_R HO219.out)
                            refine value_ (w1 := ?_) (v := ?_) (by rfl) rfl ?_ ?_
                            rotate_left 2
                            · go_simp
                              constructor
                              · rfl
                              · rfl
                            clear hcv55
                            refine hK.out _ _ trivial (fun hHeld => ?_)
                            clear hK K
                            refine norm_ (a' := ?_) ?_ ?_
                            rotate_left
                            · show Act.put _ (some 76) _ = _
                              simp only [Act.put, List.setIfInBounds_toArray, List.set_cons_zero, List.set_cons_succ, i64_w, i32_w]
                              rfl
                            refine one_ (i := 20) (N := some 74) (Far.bm 27 8388607) rfl rfl (one_of HT_.out (by kernel_rfl)) (by decide) (fun K hK => ?_)
                            have hcv56 := own_string (P := Try.prog) Try.underlying29 Try.underlying5 Try.underlying9 (Kd.own_of_R HO240.out)
                            refine value_ (w1 := ?_) (v := ?_) (by rfl) rfl ?_ ?_
                            rotate_left 2
                            · go_simp
                              constructor
                              · rfl
                              · rfl
                            clear hcv56
                            refine hK.out _ _ trivial (fun hHeld => ?_)
                            clear hK K
                            refine norm_ (a' := ?_) ?_ ?_
                            rotate_left
                            · show Act.put _ (some 74) _ = _
                              simp only [Act.put, List.setIfInBounds_toArray, List.set_cons_zero, List.set_cons_succ, i64_w, i32_w]
                              rfl
                            exact norm_ (by simp only [putAll, Act.put, List.setIfInBounds_toArray, List.set_cons_zero, List.set_cons_succ]) (hCont (v239) _ ⟨(Far.Ra HO189.out), (Far.Ra (Kd.R_mono HO192.out (fun _ hk => ⟨hk.1.1, ⟨hk.1.2.1, ⟨hk.1.2.2.1, ⟨hk.1.2.2.2, hk.2⟩⟩⟩⟩))), (Far.Ra (Kd.R_mono HO195.out (fun _ hk => ⟨hk.1.1, ⟨hk.1.2.1, ⟨hk.1.2.2.1, ⟨hk.1.2.2.2, hk.2⟩⟩⟩⟩))), (Far.Ra HO208.out), (Far.Ra (Kd.R_mono HO211.out (fun _ hk => ⟨hk.1.1, ⟨hk.1.2.1, ⟨hk.1.2.2.1, ⟨hk.1.2.2.2, hk.2⟩⟩⟩⟩))), (Far.Ra (Kd.R_mono HO219.out (fun _ hk => ⟨hk.1.1, ⟨hk.1.2.1, ⟨hk.1.2.2.1, ⟨hk.1.2.2.2, hk.2⟩⟩⟩⟩))), (Far.Ra HO227.out), (Far.Ra (Kd.R_mono HO230.out (fun _ hk => ⟨hk.1.1, ⟨hk.1.2.1, ⟨hk.1.2.2.1, ⟨hk.1.2.2.2, hk.2⟩⟩⟩⟩))), (Far.Ra (Kd.R_mono HO240.out (fun _ hk => ⟨hk.1.1.1.1.2, ⟨hk.1.1.1.2, ⟨hk.1.1.2, ⟨hk.1.2, hk.2⟩⟩⟩⟩))), (Far.Ba BK213.out), (Far.Ba BK232.out), (by repeat (first | (with_reducible first | exact HB.out | apply below_alloc | apply pw_below_drewN | apply below_drew1 | refine below_set ?_ GE213.out | refine below_set ?_ GE232.out) | exact HB.out))⟩)
                        · skip
                          have hcv54 := own_string (P := Try.prog) Try.underlying29 Try.underlying5 Try.underlying9 (Kd.own_of_R HO219.out)
                          refine value_ (w1 := ?_) (v := ?_) (by rfl) rfl ?_ ?_
                          rotate_left 2
                          · go_simp
                            constructor
                            · rfl
                            · rfl
                          clear hcv54
                          refine hK.out _ _ trivial (fun hHeld => ?_)
                          clear hK K
                          refine norm_ (a' := ?_) ?_ ?_
                          rotate_left
                          · show Act.put _ (some 76) _ = _
                            simp only [Act.put, List.setIfInBounds_toArray, List.set_cons_zero, List.set_cons_succ, i64_w, i32_w]
                            rfl
                          refine one_ (i := 19) (N := some 73) (Far.bm 27 7340031) rfl rfl (one_of HT_.out (by kernel_rfl)) (by decide) (fun K hK => ?_)
                          refine goes_ Try.func51 (by kernel_rfl) rfl #[.slice Ao43 y234.length co43] (by rfl) rfl rfl (by (try simp only [List.map_toArray, List.map_cons, List.map_nil]); first | done | rfl | (simp only [List.length_drop, List.length_take]; rfl) | (simp only [KY53.out]; done) | (simp only [KY53.out]; rfl)) ?_
                          with_reducible refine (scullerref02_Seal.calls k _ _ y234 t238 _ ?side1 ?side2 A29.out).mono ?_
                          (case side1 => repeat (first | exact (by repeat (first | (with_reducible exact HR237.out) | (with_reducible refine Kd.C_alloc ?_ _) | (with_reducible refine Kd.C_drewN ?_ _) | (with_reducible refine Kd.C_drew ?_) | exact HR237.out)) | (with_reducible refine Kd.C_alloc ?_ _) | (with_reducible refine Kd.C_drewN ?_ _) | (with_reducible refine Kd.C_drew ?_)))
                          (case side2 => exact HC237.out)
                          rintro e w55 ⟨v239, rfl, ho0, hb⟩
                          refine ⟨_, rfl, ?_⟩
                          have n0_ := Aside0.mk (Kd.R_below (Far.Ra HO189.out) hb)
                          have n1_ := Aside0.mk (Kd.R_elder' (Far.Ra HO192.out) (Kd.R_base ho0) hb)
                          have n2_ := Aside0.mk (Kd.R_elder' (Far.Ra HO195.out) (Kd.R_base ho0) hb)
                          have n3_ := Aside0.mk (Kd.R_below (Far.Ra HO208.out) hb)
                          have n4_ := Aside0.mk (Kd.R_elder' (Far.Ra HO211.out) (Kd.R_base ho0) hb)
                          have n5_ := Aside0.mk (Kd.R_elder' (Far.Ra HO219.out) (Kd.R_base ho0) hb)
                          have n6_ := Aside0.mk (Kd.R_below (Far.Ra HO227.out) hb)
                          have n7_ := Aside0.mk (Kd.R_elder' (Far.Ra HO230.out) (Kd.R_base ho0) hb)
                          have n8_ := Aside0.mk (Kd.R_lower (Kd.R_new' (Kd.R_new' (Kd.R_new' (Kd.R_new' (Kd.R_new' ho0 (Kd.R_lt (Far.Ra HO192.out))) (Kd.R_lt (Far.Ra HO195.out))) (Kd.R_lt (Far.Ra HO211.out))) (Kd.R_lt (Far.Ra HO219.out))) (Kd.R_lt (Far.Ra HO230.out))) (below_size (by repeat (first | (with_reducible first | exact HB.out | apply below_alloc | apply pw_below_drewN | apply below_drew1 | refine below_set ?_ GE213.out | refine below_set ?_ GE232.out) | exact HB.out))))
                          have n9_ := Aside0.mk (blk_below (g := gb213) (o := .cells #[.int .i64 t201, .int .u64 t202, .int .i64 t203, .int .i64 t204, .int .u32 t205, .slice Ao39 t206.length co39, .slice Ao40 t209.length co40] 96 (0, 0)) (Far.Ba BK213.out) hb)
                          have n10_ := Aside0.mk (blk_below (g := gb232) (o := .cells #[.int .i64 t220, .int .u64 t221, .int .i64 t222, .int .i64 t223, .int .u32 t224, .slice Ao48 t225.length co48, .slice Ao49 t228.length co49] 96 (0, 0)) (Far.Ba BK232.out) hb)
                          have n11_ := Aside0.mk (Kd.C_below (by repeat (first | (with_reducible exact HR237.out) | (with_reducible refine Kd.C_alloc ?_ _) | (with_reducible refine Kd.C_drewN ?_ _) | (with_reducible refine Kd.C_drew ?_) | exact HR237.out)) hb)
                          have n12_ := Aside0.mk (below_step (by repeat (first | (with_reducible first | exact HB.out | apply below_alloc | apply pw_below_drewN | apply below_drew1 | refine below_set ?_ GE213.out | refine below_set ?_ GE232.out) | exact HB.out)) hb)
                          clear HO189 HO192 HO195 HO208 HO211 HO219 HO227 HO230 BK213 BK232 HR237 HB
                          have HO189 := n0_
                          have HO192 := n1_
                          have HO195 := n2_
                          have HO208 := n3_
                          have HO211 := n4_
                          have HO219 := n5_
                          have HO227 := n6_
                          have HO230 := n7_
                          have HO240 := n8_
                          have BK213 := n9_
                          have BK232 := n10_
                          have HR237 := n11_
                          have HB := n12_
                          clear n0_ n1_ n2_ n3_ n4_ n5_ n6_ n7_ n8_ n9_ n10_ n11_ n12_
                          (try clear hb)
                          (try clear hb2)
                          (try clear hk)
                          (try clear hi)
                          (try clear ho0)
                          refine hK.out _ _ trivial (fun hHeld => ?_)
                          clear hK K
                          refine norm_ (a' := ?_) ?_ ?_
                          rotate_left
                          · show Act.put _ (some 73) _ = _
                            simp only [Act.put, List.setIfInBounds_toArray, List.set_cons_zero, List.set_cons_succ, i64_w, i32_w]
                            rfl
                          refine one_ (i := 20) (N := some 74) (Far.bm 27 8388607) rfl rfl (one_of HT_.out (by kernel_rfl)) (by decide) (fun K hK => ?_)
                          have hcv56 := own_string (P := Try.prog) Try.underlying29 Try.underlying5 Try.underlying9 (Kd.own_of_R HO240.out)
                          refine value_ (w1 := ?_) (v := ?_) (by rfl) rfl ?_ ?_
                          rotate_left 2
                          · go_simp
                            constructor
                            · rfl
                            · rfl
                          clear hcv56
                          refine hK.out _ _ trivial (fun hHeld => ?_)
                          clear hK K
                          refine norm_ (a' := ?_) ?_ ?_
                          rotate_left
                          · show Act.put _ (some 74) _ = _
                            simp only [Act.put, List.setIfInBounds_toArray, List.set_cons_zero, List.set_cons_succ, i64_w, i32_w]
                            rfl
                          exact norm_ (by simp only [putAll, Act.put, List.setIfInBounds_toArray, List.set_cons_zero, List.set_cons_succ]) (hCont (v239) _ ⟨(Far.Ra HO189.out), (Far.Ra (Kd.R_mono HO192.out (fun _ hk => ⟨hk.1.1, ⟨hk.1.2.1, ⟨hk.1.2.2.1, ⟨hk.1.2.2.2, hk.2⟩⟩⟩⟩))), (Far.Ra (Kd.R_mono HO195.out (fun _ hk => ⟨hk.1.1, ⟨hk.1.2.1, ⟨hk.1.2.2.1, ⟨hk.1.2.2.2, hk.2⟩⟩⟩⟩))), (Far.Ra HO208.out), (Far.Ra (Kd.R_mono HO211.out (fun _ hk => ⟨hk.1.1, ⟨hk.1.2.1, ⟨hk.1.2.2.1, ⟨hk.1.2.2.2, hk.2⟩⟩⟩⟩))), (Far.Ra (Kd.R_mono HO219.out (fun _ hk => ⟨hk.1.1, ⟨hk.1.2.1, ⟨hk.1.2.2.1, ⟨hk.1.2.2.2, hk.2⟩⟩⟩⟩))), (Far.Ra HO227.out), (Far.Ra (Kd.R_mono HO230.out (fun _ hk => ⟨hk.1.1, ⟨hk.1.2.1, ⟨hk.1.2.2.1, ⟨hk.1.2.2.2, hk.2⟩⟩⟩⟩))), (Far.Ra (Kd.R_mono HO240.out (fun _ hk => ⟨hk.1.1.1.1.2, ⟨hk.1.1.1.2, ⟨hk.1.1.2, ⟨hk.1.2, hk.2⟩⟩⟩⟩))), (Far.Ba BK213.out), (Far.Ba BK232.out), (by repeat (first | (with_reducible first | exact HB.out | apply below_alloc | apply pw_below_drewN | apply below_drew1 | refine below_set ?_ GE213.out | refine below_set ?_ GE232.out) | exact HB.out))⟩)
                      rintro v239 w57 ⟨h0_, h1_, h2_, h3_, h4_, h5_, h6_, h7_, h8_, h9_, h10_, h11_⟩
                      have n0_ : Aside0 (Kd.R (Kd.int .i64) 3 w57 w.heap.size (fun k_ => some k_ ≠ (.slice Ao39 t206.length co39 : Value).ownBlock ∧ some k_ ≠ (.slice Ao48 t225.length co48 : Value).ownBlock) (.slice Ao31 t187.length co31) t187) := ⟨h0_⟩
                      have n1_ : Aside0 (Kd.R (Kd.int .u8) 5 w57 w.heap.size (fun k_ => some k_ ≠ (.slice Ao34 t193.length co34 : Value).ownBlock ∧ some k_ ≠ (.slice Ao40 t209.length co40 : Value).ownBlock ∧ some k_ ≠ (.slice Ao43 y217.length co43 : Value).ownBlock ∧ some k_ ≠ (.slice Ao49 t228.length co49 : Value).ownBlock ∧ some k_ ≠ (v239 : Value).ownBlock) (.slice Ao32 t190.length co32) t190) := ⟨h1_⟩
                      have n2_ : Aside0 (Kd.R (Kd.int .u8) 5 w57 w.heap.size (fun k_ => some k_ ≠ (.slice Ao32 t190.length co32 : Value).ownBlock ∧ some k_ ≠ (.slice Ao40 t209.length co40 : Value).ownBlock ∧ some k_ ≠ (.slice Ao43 y217.length co43 : Value).ownBlock ∧ some k_ ≠ (.slice Ao49 t228.length co49 : Value).ownBlock ∧ some k_ ≠ (v239 : Value).ownBlock) (.slice Ao34 t193.length co34) t193) := ⟨h2_⟩
                      have n3_ : Aside0 (Kd.R (Kd.int .i64) 3 w57 w.heap.size (fun k_ => some k_ ≠ (.slice Ao31 t187.length co31 : Value).ownBlock ∧ some k_ ≠ (.slice Ao48 t225.length co48 : Value).ownBlock) (.slice Ao39 t206.length co39) t206) := ⟨h3_⟩
                      have n4_ : Aside0 (Kd.R (Kd.int .u8) 5 w57 w.heap.size (fun k_ => some k_ ≠ (.slice Ao32 t190.length co32 : Value).ownBlock ∧ some k_ ≠ (.slice Ao34 t193.length co34 : Value).ownBlock ∧ some k_ ≠ (.slice Ao43 y217.length co43 : Value).ownBlock ∧ some k_ ≠ (.slice Ao49 t228.length co49 : Value).ownBlock ∧ some k_ ≠ (v239 : Value).ownBlock) (.slice Ao40 t209.length co40) t209) := ⟨h4_⟩
                      have n5_ : Aside0 (Kd.R (Kd.int .u8) 5 w57 w.heap.size (fun k_ => some k_ ≠ (.slice Ao32 t190.length co32 : Value).ownBlock ∧ some k_ ≠ (.slice Ao34 t193.length co34 : Value).ownBlock ∧ some k_ ≠ (.slice Ao40 t209.length co40 : Value).ownBlock ∧ some k_ ≠ (.slice Ao49 t228.length co49 : Value).ownBlock ∧ some k_ ≠ (v239 : Value).ownBlock) (.slice Ao43 y217.length co43) y217) := ⟨h5_⟩
                      have n6_ : Aside0 (Kd.R (Kd.int .i64) 3 w57 w.heap.size (fun k_ => some k_ ≠ (.slice Ao31 t187.length co31 : Value).ownBlock ∧ some k_ ≠ (.slice Ao39 t206.length co39 : Value).ownBlock) (.slice Ao48 t225.length co48) t225) := ⟨h6_⟩
                      have n7_ : Aside0 (Kd.R (Kd.int .u8) 5 w57 w.heap.size (fun k_ => some k_ ≠ (.slice Ao32 t190.length co32 : Value).ownBlock ∧ some k_ ≠ (.slice Ao34 t193.length co34 : Value).ownBlock ∧ some k_ ≠ (.slice Ao40 t209.length co40 : Value).ownBlock ∧ some k_ ≠ (.slice Ao43 y217.length co43 : Value).ownBlock ∧ some k_ ≠ (v239 : Value).ownBlock) (.slice Ao49 t228.length co49) t228) := ⟨h7_⟩
                      have n8_ : Aside0 (Kd.R (Kd.int .u8) 5 w57 w.heap.size (fun k_ => some k_ ≠ (.slice Ao32 t190.length co32 : Value).ownBlock ∧ some k_ ≠ (.slice Ao34 t193.length co34 : Value).ownBlock ∧ some k_ ≠ (.slice Ao40 t209.length co40 : Value).ownBlock ∧ some k_ ≠ (.slice Ao43 y217.length co43 : Value).ownBlock ∧ some k_ ≠ (.slice Ao49 t228.length co49 : Value).ownBlock) v239 t238) := ⟨h8_⟩
                      have n9_ : Aside0 (w57.heap[gb213]? = some (.cells #[.int .i64 t201, .int .u64 t202, .int .i64 t203, .int .i64 t204, .int .u32 t205, .slice Ao39 t206.length co39, .slice Ao40 t209.length co40] 96 (0, 0))) := ⟨h9_⟩
                      have n10_ : Aside0 (w57.heap[gb232]? = some (.cells #[.int .i64 t220, .int .u64 t221, .int .i64 t222, .int .i64 t223, .int .u32 t224, .slice Ao48 t225.length co48, .slice Ao49 t228.length co49] 96 (0, 0))) := ⟨h10_⟩
                      have n11_ : Aside0 (Below w.heap.size w w57) := ⟨h11_⟩
                      clear HO189 HO192 HO195 HO208 HO211 HO219 HO227 HO230 BK213 BK232 HB h0_ h1_ h2_ h3_ h4_ h5_ h6_ h7_ h8_ h9_ h10_ h11_
                      have HO189 := n0_
                      have HO192 := n1_
                      have HO195 := n2_
                      have HO208 := n3_
                      have HO211 := n4_
                      have HO219 := n5_
                      have HO227 := n6_
                      have HO230 := n7_
                      have HO240 := n8_
                      have BK213 := n9_
                      have BK232 := n10_
                      have HB := n11_
                      clear n0_ n1_ n2_ n3_ n4_ n5_ n6_ n7_ n8_ n9_ n10_ n11_
                      have hHeld := trivial
                      refine norm_ (a' := ?_) ?_ ?_
                      rotate_left
                      · simp only [putAll, Act.put, List.setIfInBounds_toArray, List.set_cons_zero, List.set_cons_succ]
                        rfl
                      refine pure_ (i := 23) (N := some 77) (v := ?_) (a' := ?_) (Far.bm 27 16777215) rfl rfl (any_of HT_.out (by kernel_rfl)) (fun _ _ _ h => h) (Or.inl ⟨by rfl, ?_⟩) ?_ ?_; rotate_left; (intro w'; go_simp; with_reducible rfl); rotate_left; (simp only [Act.put, List.setIfInBounds_toArray, List.set_cons_zero, List.set_cons_succ, i64_w, i32_w]; rfl)
                      refine pure_ (i := 24) (N := some 78) (v := ?_) (a' := ?_) (Far.bm 27 33554431) rfl rfl (any_of HT_.out (by kernel_rfl)) (fun _ _ _ h => h) (Or.inl ⟨by rfl, ?_⟩) ?_ ?_; rotate_left; (intro w'; go_simp; with_reducible rfl); rotate_left; (simp only [Act.put, List.setIfInBounds_toArray, List.set_cons_zero, List.set_cons_succ, i64_w, i32_w]; rfl)
                      refine pure_ (i := 25) (N := some 79) (v := ?_) (a' := ?_) (Far.bm 27 67108863) rfl rfl (any_of HT_.out (by kernel_rfl)) (fun _ _ _ h => h) (Or.inl ⟨by rfl, ?_⟩) ?_ ?_; rotate_left; (intro w'; go_simp; with_reducible rfl); rotate_left; (simp only [Act.put, List.setIfInBounds_toArray, List.set_cons_zero, List.set_cons_succ, i64_w, i32_w]; rfl)
                      refine pure_ (i := 26) (N := some 12) (v := ?_) (a' := ?_) (Far.bm 27 134217727) rfl rfl (any_of HT_.out (by kernel_rfl)) (fun _ _ _ h => h) (Or.inl ⟨by rfl, ?_⟩) ?_ ?_; rotate_left; (intro w'; go_simp; with_reducible rfl); rotate_left; (simp only [Act.put, List.setIfInBounds_toArray, List.set_cons_zero, List.set_cons_succ, i64_w, i32_w]; rfl)
                      refine done_ (done_of HT_.out (by kernel_rfl)) ?_
                      try go_wp2
                      go_ret
                      exact ⟨by first | rfl | (simp [errW_none, errW_some] <;> rfl) | (simp only [← hji15, ← hji26]; first | rfl | (simp [errW_none, errW_some] <;> rfl)) | (simp [*, errW_none, errW_some] <;> rfl), by repeat (first | (with_reducible first | exact HB.out | apply below_alloc | apply pw_below_drewN | apply below_drew1 | refine below_set ?_ GE213.out | refine below_set ?_ GE232.out) | exact HB.out)⟩
                    · rw [if_neg c28] at H
                      exact absurd H (by simp)
                  · rw [if_neg c27] at H
                    exact absurd H (by simp)
                · rw [if_neg c25] at H
                  have c25b0 : (t231 == 0) = false := beq_eq_false_iff_ne.mpr c25
                  have c25b1 : (t231 != 0) = true := bne_iff_ne.mpr c25
                  by_cases c58 : t220 = 0
                  · rw [if_pos c58] at H
                    have c58b0 : (t220 == 0) = true := beq_iff_eq.mpr c58
                    have c58b1 : (t220 != 0) = false := bne_eq_false_iff_eq.mpr c58
                    clear c58
                    obtain rfl := Option.some.inj H
                    refine start_ (n := 27) (S := fun w' => w'.cell? ⟨gb232, 0, none⟩ = some (.int .i64 t220) ∧ w'.cell? ⟨gb232, 1, none⟩ = some (.int .u64 t221) ∧ w'.cell? ⟨gb232, 2, none⟩ = some (.int .i64 t222) ∧ w'.cell? ⟨gb232, 3, none⟩ = some (.int .i64 t223) ∧ w'.cell? ⟨gb232, 4, none⟩ = some (.int .u32 t224) ∧ w'.cell? ⟨gb232, 5, none⟩ = some (.slice Ao48 t225.length co48) ∧ w'.cell? ⟨gb232, 6, none⟩ = some (.slice Ao49 t228.length co49)) (ds := []) (Far.bm 27 0) (by kernel_rfl) rfl rfl ⟨(blk_cell BK232.out 0).trans rfl, (blk_cell BK232.out 1).trans rfl, (blk_cell BK232.out 2).trans rfl, (blk_cell BK232.out 3).trans rfl, (blk_cell BK232.out 4).trans rfl, (blk_cell BK232.out 5).trans rfl, (blk_cell BK232.out 6).trans rfl⟩ (fun hHeld => ?_); refine with_tabW scullerlaw13_PackCut.tab9 scullerlaw13_PackCut.bits9 (fun HT_ HW_ => ?_)
                    generalize w50.drew = w80 at HO189 HO192 HO195 HO208 HO211 HO219 HO227 HO230 BK213 BK232 HB hHeld ⊢
                    refine one_ (i := 0) (N := some 54) (Far.bm 27 1) rfl rfl (one_of HT_.out (by kernel_rfl)) (by decide) (fun K hK => ?_)
                    refine goes_ Try.func99 (by kernel_rfl) rfl #[] (by rfl) rfl rfl (by (try simp only [List.map_toArray, List.map_cons, List.map_nil]); first | done | rfl | (simp only [List.length_drop, List.length_take]; rfl)) ?_
                    with_reducible refine (scullerlaw13_known.calls k  true _ A22.out).mono ?_
                    rintro e w81 ⟨rfl, hb⟩
                    refine ⟨_, rfl, ?_⟩
                    have n0_ := Aside0.mk (Kd.R_below (Far.Ra HO189.out) hb)
                    have n1_ := Aside0.mk (Kd.R_below (Far.Ra HO192.out) hb)
                    have n2_ := Aside0.mk (Kd.R_below (Far.Ra HO195.out) hb)
                    have n3_ := Aside0.mk (Kd.R_below (Far.Ra HO208.out) hb)
                    have n4_ := Aside0.mk (Kd.R_below (Far.Ra HO211.out) hb)
                    have n5_ := Aside0.mk (Kd.R_below (Far.Ra HO219.out) hb)
                    have n6_ := Aside0.mk (Kd.R_below (Far.Ra HO227.out) hb)
                    have n7_ := Aside0.mk (Kd.R_below (Far.Ra HO230.out) hb)
                    have n8_ := Aside0.mk (blk_below (g := gb213) (o := .cells #[.int .i64 t201, .int .u64 t202, .int .i64 t203, .int .i64 t204, .int .u32 t205, .slice Ao39 t206.length co39, .slice Ao40 t209.length co40] 96 (0, 0)) (Far.Ba BK213.out) hb)
                    have n9_ := Aside0.mk (blk_below (g := gb232) (o := .cells #[.int .i64 t220, .int .u64 t221, .int .i64 t222, .int .i64 t223, .int .u32 t224, .slice Ao48 t225.length co48, .slice Ao49 t228.length co49] 96 (0, 0)) (Far.Ba BK232.out) hb)
                    have n10_ := Aside0.mk (below_step (by repeat (first | (with_reducible first | exact HB.out | apply below_alloc | apply pw_below_drewN | apply below_drew1 | refine below_set ?_ GE213.out | refine below_set ?_ GE232.out) | exact HB.out)) hb)
                    clear HO189 HO192 HO195 HO208 HO211 HO219 HO227 HO230 BK213 BK232 HB
                    have HO189 := n0_
                    have HO192 := n1_
                    have HO195 := n2_
                    have HO208 := n3_
                    have HO211 := n4_
                    have HO219 := n5_
                    have HO227 := n6_
                    have HO230 := n7_
                    have BK213 := n8_
                    have BK232 := n9_
                    have HB := n10_
                    clear n0_ n1_ n2_ n3_ n4_ n5_ n6_ n7_ n8_ n9_ n10_
                    (try clear hb)
                    (try clear hb2)
                    (try clear hk)
                    (try clear hi)
                    refine hK.out _ _ ⟨(blk_cell BK232.out 0).trans rfl, (blk_cell BK232.out 1).trans rfl, (blk_cell BK232.out 2).trans rfl, (blk_cell BK232.out 3).trans rfl, (blk_cell BK232.out 4).trans rfl, (blk_cell BK232.out 5).trans rfl, (blk_cell BK232.out 6).trans rfl⟩ (fun hHeld => ?_)
                    clear hK K
                    refine norm_ (a' := ?_) ?_ ?_
                    rotate_left
                    · show Act.put _ (some 54) _ = _
                      simp only [Act.put, List.setIfInBounds_toArray, List.set_cons_zero, List.set_cons_succ, i64_w, i32_w]
                      rfl
                    refine pure_ (i := 1) (N := some 55) (v := ?_) (a' := ?_) (Far.bm 27 3) rfl rfl (any_of HT_.out (by kernel_rfl)) (fun _ _ _ h => h) (Or.inl ⟨by rfl, ?_⟩) ?_ ?_; rotate_left; (intro w'; go_simp; with_reducible rfl); rotate_left; (simp only [Act.put, List.setIfInBounds_toArray, List.set_cons_zero, List.set_cons_succ, i64_w, i32_w]; rfl)
                    refine pure_ (i := 2) (N := some 56) (v := ?_) (a' := ?_) (Far.bm 27 7) rfl rfl (any_of HT_.out (by kernel_rfl)) (fun _ _ _ h => h) (Or.inl ⟨by rfl, ?_⟩) ?_ ?_; rotate_left; (intro w'; go_simp; with_reducible rfl); rotate_left; (simp only [Act.put, List.setIfInBounds_toArray, List.set_cons_zero, List.set_cons_succ, i64_w, i32_w]; rfl)
                    refine pure_ (i := 3) (N := some 57) (v := ?_) (a' := ?_) (Far.bm 27 15) rfl rfl (any_of HT_.out (by kernel_rfl)) (fun _ _ _ h => h) (Or.inl ⟨by rfl, ?_⟩) ?_ ?_; rotate_left; (intro w'; go_simp; with_reducible rfl); rotate_left; (simp only [Act.put, List.setIfInBounds_toArray, List.set_cons_zero, List.set_cons_succ, i64_w, i32_w]; rfl)
                    refine pure_ (i := 4) (N := some 58) (v := ?_) (a' := ?_) (Far.bm 27 31) rfl rfl (any_of HT_.out (by kernel_rfl)) (fun _ _ _ h => h) (Or.inl ⟨by rfl, ?_⟩) ?_ ?_; rotate_left; (intro w'; go_simp; with_reducible rfl); rotate_left; (simp only [Act.put, List.setIfInBounds_toArray, List.set_cons_zero, List.set_cons_succ, i64_w, i32_w]; rfl)
                    refine pure_ (i := 5) (N := some 59) (v := ?_) (a' := ?_) (Far.bm 27 63) rfl rfl (any_of HT_.out (by kernel_rfl)) (fun _ _ _ h => h) (Or.inl ⟨by rfl, ?_⟩) ?_ ?_; rotate_left; (intro w'; go_simp; with_reducible rfl); rotate_left; (simp only [Act.put, List.setIfInBounds_toArray, List.set_cons_zero, List.set_cons_succ, i64_w, i32_w]; rfl)
                    refine pure_ (i := 6) (N := some 60) (v := ?_) (a' := ?_) (Far.bm 27 127) rfl rfl (any_of HT_.out (by kernel_rfl)) (fun _ _ _ h => h) (Or.inl ⟨by rfl, ?_⟩) ?_ ?_; rotate_left; (intro w'; go_simp; with_reducible rfl); rotate_left; (simp only [Act.put, List.setIfInBounds_toArray, List.set_cons_zero, List.set_cons_succ, i64_w, i32_w]; rfl)
                    refine pure_ (i := 7) (N := some 61) (v := ?_) (a' := ?_) (Far.bm 27 255) rfl rfl (any_of HT_.out (by kernel_rfl)) (fun _ _ _ h => h) (Or.inl ⟨by rfl, ?_⟩) ?_ ?_; rotate_left; (intro w'; go_simp; with_reducible rfl); rotate_left; (simp only [Act.put, List.setIfInBounds_toArray, List.set_cons_zero, List.set_cons_succ, i64_w, i32_w]; rfl)
                    refine pure_ (i := 8) (N := some 62) (v := ?_) (a' := ?_) (Far.bm 27 511) rfl rfl (any_of HT_.out (by kernel_rfl)) (fun _ _ _ h => h) (Or.inl ⟨by rfl, ?_⟩) ?_ ?_; rotate_left; (intro w'; go_simp; with_reducible rfl); rotate_left; (simp only [Act.put, List.setIfInBounds_toArray, List.set_cons_zero, List.set_cons_succ, i64_w, i32_w]; rfl)
                    refine pure_ (i := 9) (N := some 63) (v := ?_) (a' := ?_) (Far.bm 27 1023) rfl rfl (any_of HT_.out (by kernel_rfl)) (fun _ _ _ h => h) (Or.inl ⟨by rfl, ?_⟩) ?_ ?_; rotate_left; (intro w'; go_simp; with_reducible rfl); rotate_left; (simp only [Act.put, List.setIfInBounds_toArray, List.set_cons_zero, List.set_cons_succ, i64_w, i32_w]; rfl)
                    refine take_ (i := 10) (N := some 64) (v := ?_) (a' := ?_) (Far.bm 27 2047) rfl rfl (take_ofW HT_.out HW_.out (by kernel_rfl)) (fun _ _ _ h => h) (Or.inl ⟨by rfl, ?_⟩) hHeld ?_ ?_; rotate_left; (rintro w' ⟨s0, s1, s2, s3, s4, s5, s6⟩; go_simp; with_reducible rfl); rotate_left; (simp only [Act.put, List.setIfInBounds_toArray, List.set_cons_zero, List.set_cons_succ, i64_w, i32_w]; rfl)
                    refine pure_ (i := 11) (N := some 65) (v := ?_) (a' := ?_) (Far.bm 27 4095) rfl rfl (any_of HT_.out (by kernel_rfl)) (fun _ _ _ h => h) (Or.inl ⟨by rfl, ?_⟩) ?_ ?_; rotate_left; (intro w'; go_simp; with_reducible rfl); rotate_left; (simp only [Act.put, List.setIfInBounds_toArray, List.set_cons_zero, List.set_cons_succ, i64_w, i32_w]; rfl)
                    refine pure_ (i := 12) (N := some 66) (v := ?_) (a' := ?_) (Far.bm 27 8191) rfl rfl (any_of HT_.out (by kernel_rfl)) (fun _ _ _ h => h) (Or.inl ⟨by rfl, ?_⟩) ?_ ?_; rotate_left; (intro w'; go_simp; with_reducible rfl); rotate_left; (simp only [Act.put, List.setIfInBounds_toArray, List.set_cons_zero, List.set_cons_succ, i64_w, i32_w]; rfl)
                    refine pure_ (i := 13) (N := some 67) (v := ?_) (a' := ?_) (Far.bm 27 16383) rfl rfl (any_of HT_.out (by kernel_rfl)) (fun _ _ _ h => h) (Or.inl ⟨by rfl, ?_⟩) ?_ ?_; rotate_left; (intro w'; go_simp; with_reducible rfl); rotate_left; (simp only [Act.put, List.setIfInBounds_toArray, List.set_cons_zero, List.set_cons_succ, i64_w, i32_w]; rfl)
                    refine pure_ (i := 14) (N := some 68) (v := undef) (a' := ?_) (Far.bm 27 32767) rfl rfl (any_of HT_.out (by kernel_rfl)) (fun _ _ _ h => h) (Or.inr ⟨by rfl, rfl⟩) ?_ ?_
                    rotate_left
                    · simp only [Act.put, List.setIfInBounds_toArray, List.set_cons_zero, List.set_cons_succ, i64_w, i32_w]
                      rfl
                    refine pure_ (i := 15) (N := some 69) (v := undef) (a' := ?_) (Far.bm 27 65535) rfl rfl (any_of HT_.out (by kernel_rfl)) (fun _ _ _ h => h) (Or.inr ⟨by rfl, rfl⟩) ?_ ?_
                    rotate_left
                    · simp only [Act.put, List.setIfInBounds_toArray, List.set_cons_zero, List.set_cons_succ, i64_w, i32_w]
                      rfl
                    refine pure_ (i := 16) (N := some 70) (v := undef) (a' := ?_) (Far.bm 27 131071) rfl rfl (any_of HT_.out (by kernel_rfl)) (fun _ _ _ h => h) (Or.inr ⟨by rfl, rfl⟩) ?_ ?_
                    rotate_left
                    · simp only [Act.put, List.setIfInBounds_toArray, List.set_cons_zero, List.set_cons_succ, i64_w, i32_w]
                      rfl
                    refine pure_ (i := 17) (N := some 71) (v := undef) (a' := ?_) (Far.bm 27 262143) rfl rfl (any_of HT_.out (by kernel_rfl)) (fun _ _ _ h => h) (Or.inr ⟨by rfl, rfl⟩) ?_ ?_
                    rotate_left
                    · simp only [Act.put, List.setIfInBounds_toArray, List.set_cons_zero, List.set_cons_succ, i64_w, i32_w]
                      rfl
                    refine pure_ (i := 18) (N := some 72) (v := undef) (a' := ?_) (Far.bm 27 524287) rfl rfl (any_of HT_.out (by kernel_rfl)) (fun _ _ _ h => h) (Or.inr ⟨by rfl, rfl⟩) ?_ ?_
                    rotate_left
                    · simp only [Act.put, List.setIfInBounds_toArray, List.set_cons_zero, List.set_cons_succ, i64_w, i32_w]
                      rfl
                    refine pure_ (i := 19) (N := some 73) (v := undef) (a' := ?_) (Far.bm 27 1048575) rfl rfl (any_of HT_.out (by kernel_rfl)) (fun _ _ _ h => h) (Or.inr ⟨by rfl, rfl⟩) ?_ ?_
                    rotate_left
                    · simp only [Act.put, List.setIfInBounds_toArray, List.set_cons_zero, List.set_cons_succ, i64_w, i32_w]
                      rfl
                    refine pure_ (i := 20) (N := some 74) (v := undef) (a' := ?_) (Far.bm 27 2097151) rfl rfl (any_of HT_.out (by kernel_rfl)) (fun _ _ _ h => h) (Or.inr ⟨by rfl, rfl⟩) ?_ ?_
                    rotate_left
                    · simp only [Act.put, List.setIfInBounds_toArray, List.set_cons_zero, List.set_cons_succ, i64_w, i32_w]
                      rfl
                    refine pure_ (i := 21) (N := some 75) (v := undef) (a' := ?_) (Far.bm 27 4194303) rfl rfl (any_of HT_.out (by kernel_rfl)) (fun _ _ _ h => h) (Or.inr ⟨by rfl, rfl⟩) ?_ ?_
                    rotate_left
                    · simp only [Act.put, List.setIfInBounds_toArray, List.set_cons_zero, List.set_cons_succ, i64_w, i32_w]
                      rfl
                    refine pure_ (i := 22) (N := some 76) (v := undef) (a' := ?_) (Far.bm 27 8388607) rfl rfl (any_of HT_.out (by kernel_rfl)) (fun _ _ _ h => h) (Or.inr ⟨by rfl, rfl⟩) ?_ ?_
                    rotate_left
                    · simp only [Act.put, List.setIfInBounds_toArray, List.set_cons_zero, List.set_cons_succ, i64_w, i32_w]
                      rfl
                    refine pure_ (i := 23) (N := some 77) (v := undef) (a' := ?_) (Far.bm 27 16777215) rfl rfl (any_of HT_.out (by kernel_rfl)) (fun _ _ _ h => h) (Or.inr ⟨by rfl, rfl⟩) ?_ ?_
                    rotate_left
                    · simp only [Act.put, List.setIfInBounds_toArray, List.set_cons_zero, List.set_cons_succ, i64_w, i32_w]
                      rfl
                    refine pure_ (i := 24) (N := some 78) (v := ?_) (a' := ?_) (Far.bm 27 33554431) rfl rfl (any_of HT_.out (by kernel_rfl)) (fun _ _ _ h => h) (Or.inl ⟨by rfl, ?_⟩) ?_ ?_; rotate_left; (intro w'; go_simp; with_reducible rfl); rotate_left; (simp only [Act.put, List.setIfInBounds_toArray, List.set_cons_zero, List.set_cons_succ, i64_w, i32_w]; rfl)
                    refine pure_ (i := 25) (N := some 79) (v := ?_) (a' := ?_) (Far.bm 27 67108863) rfl rfl (any_of HT_.out (by kernel_rfl)) (fun _ _ _ h => h) (Or.inl ⟨by rfl, ?_⟩) ?_ ?_; rotate_left; (intro w'; go_simp; with_reducible rfl); rotate_left; (simp only [Act.put, List.setIfInBounds_toArray, List.set_cons_zero, List.set_cons_succ, i64_w, i32_w]; rfl)
                    refine pure_ (i := 26) (N := some 12) (v := ?_) (a' := ?_) (Far.bm 27 134217727) rfl rfl (any_of HT_.out (by kernel_rfl)) (fun _ _ _ h => h) (Or.inl ⟨by rfl, ?_⟩) ?_ ?_; rotate_left; (intro w'; go_simp; with_reducible rfl); rotate_left; (simp only [Act.put, List.setIfInBounds_toArray, List.set_cons_zero, List.set_cons_succ, i64_w, i32_w]; rfl)
                    refine done_ (done_of HT_.out (by kernel_rfl)) ?_
                    try go_wp2
                    go_ret
                    exact ⟨by first | rfl | (simp [errW_none, errW_some] <;> rfl) | (simp only [← hji15]; first | rfl | (simp [errW_none, errW_some] <;> rfl)) | (simp [*, errW_none, errW_some] <;> rfl), by repeat (first | (with_reducible first | exact HB.out | apply below_alloc | apply pw_below_drewN | apply below_drew1 | refine below_set ?_ GE213.out | refine below_set ?_ GE232.out) | exact HB.out)⟩
                  · rw [if_neg c58] at H
                    have c58b0 : (t220 == 0) = false := beq_eq_false_iff_ne.mpr c58
                    have c58b1 : (t220 != 0) = true := bne_iff_ne.mpr c58
                    obtain ⟨ji82, hji82⟩ : ∃ j_ : Int, (wrap64 ((y217.length : Int) - 4)) = j_ := ⟨_, rfl⟩
                    replace H : (if 0 ≤ (ji82) then (if (ji82) ≤ (y217.length : Int) then ((scullerref02_Seal.f k (y217.take ((ji82) : Int).toNat)).bind fun t245 => (some ((strOfNums t245).toList == (strOfNums y217).toList))) else (none)) else (none)) = some r := by first | (rw [hji82] at H; exact H) | (simp only [hji82] at H ⊢; exact H)
                    (try rw [hji82] at A7)
                    (try rw [hji82] at A8)
                    (try rw [hji82] at A18)
                    (try rw [hji82] at A21)
                    (try rw [hji82] at A22)
                    have hji82w : (IntKind.i64.wrap ((y217.length : Int) - 4)) = ji82 := (i64_w _).trans hji82
                    by_cases c83 : 0 ≤ (ji82)
                    · rw [if_pos c83] at H
                      have c83b0 := eq_true c83
                      have c83b1 : decide (0 ≤ (ji82)) = true := decide_eq_true c83
                      clear c83
                      by_cases c84 : (ji82) ≤ (y217.length : Int)
                      · rw [if_pos c84] at H
                        have c84b0 := eq_true c84
                        have c84b1 : decide ((ji82) ≤ (y217.length : Int)) = true := decide_eq_true c84
                        clear c84
                        obtain ⟨y241, hy241⟩ : ∃ y_ : List Int, y_ = (y217.take ((ji82) : Int).toNat) := ⟨_, rfl⟩
                        replace H : ((scullerref02_Seal.f k y241).bind fun t245 => (some ((strOfNums t245).toList == (strOfNums y217).toList))) = some r := by first | (rw [hy241]; with_reducible exact H) | (have H2_ := (Option.bind_some _ _).symm.trans H; rw [hy241]; with_reducible exact H2_) | (have H2_ := (Option.bind_some _ _).symm.trans H; with_reducible exact H2_) | with_reducible exact H | (rw [hy241]; exact H) | exact H
                        have Ny241 := Aside0.mk hy241
                        clear hy241
                        replace H := Option.bind_eq_some_iff.mp H
                        obtain ⟨t245, A850, H⟩ := H
                        replace H : (some ((strOfNums t245).toList == (strOfNums y217).toList)) = some r := H
                        have A85 := Aside0.mk A850
                        clear A850
                        obtain rfl := Option.some.inj H
                        refine start_ (n := 27) (S := fun w' => w'.cell? ⟨gb232, 0, none⟩ = some (.int .i64 t220) ∧ w'.cell? ⟨gb232, 1, none⟩ = some (.int .u64 t221) ∧ w'.cell? ⟨gb232, 2, none⟩ = some (.int .i64 t222) ∧ w'.cell? ⟨gb232, 3, none⟩ = some (.int .i64 t223) ∧ w'.cell? ⟨gb232, 4, none⟩ = some (.int .u32 t224) ∧ w'.cell? ⟨gb232, 5, none⟩ = some (.slice Ao48 t225.length co48) ∧ w'.cell? ⟨gb232, 6, none⟩ = some (.slice Ao49 t228.length co49)) (ds := []) (Far.bm 27 0) (by kernel_rfl) rfl rfl ⟨(blk_cell BK232.out 0).trans rfl, (blk_cell BK232.out 1).trans rfl, (blk_cell BK232.out 2).trans rfl, (blk_cell BK232.out 3).trans rfl, (blk_cell BK232.out 4).trans rfl, (blk_cell BK232.out 5).trans rfl, (blk_cell BK232.out 6).trans rfl⟩ (fun hHeld => ?_); refine with_tabW scullerlaw13_PackCut.tab9 scullerlaw13_PackCut.bits9 (fun HT_ HW_ => ?_)
                        generalize w50.drew = w107 at HO189 HO192 HO195 HO208 HO211 HO219 HO227 HO230 BK213 BK232 HB hHeld ⊢
                        refine one_ (i := 0) (N := some 54) (Far.bm 27 1) rfl rfl (one_of HT_.out (by kernel_rfl)) (by decide) (fun K hK => ?_)
                        refine goes_ Try.func99 (by kernel_rfl) rfl #[] (by rfl) rfl rfl (by (try simp only [List.map_toArray, List.map_cons, List.map_nil]); first | done | rfl | (simp only [List.length_drop, List.length_take]; rfl)) ?_
                        with_reducible refine (scullerlaw13_known.calls k  true _ A22.out).mono ?_
                        rintro e w108 ⟨rfl, hb⟩
                        refine ⟨_, rfl, ?_⟩
                        have n0_ := Aside0.mk (Kd.R_below (Far.Ra HO189.out) hb)
                        have n1_ := Aside0.mk (Kd.R_below (Far.Ra HO192.out) hb)
                        have n2_ := Aside0.mk (Kd.R_below (Far.Ra HO195.out) hb)
                        have n3_ := Aside0.mk (Kd.R_below (Far.Ra HO208.out) hb)
                        have n4_ := Aside0.mk (Kd.R_below (Far.Ra HO211.out) hb)
                        have n5_ := Aside0.mk (Kd.R_below (Far.Ra HO219.out) hb)
                        have n6_ := Aside0.mk (Kd.R_below (Far.Ra HO227.out) hb)
                        have n7_ := Aside0.mk (Kd.R_below (Far.Ra HO230.out) hb)
                        have n8_ := Aside0.mk (blk_below (g := gb213) (o := .cells #[.int .i64 t201, .int .u64 t202, .int .i64 t203, .int .i64 t204, .int .u32 t205, .slice Ao39 t206.length co39, .slice Ao40 t209.length co40] 96 (0, 0)) (Far.Ba BK213.out) hb)
                        have n9_ := Aside0.mk (blk_below (g := gb232) (o := .cells #[.int .i64 t220, .int .u64 t221, .int .i64 t222, .int .i64 t223, .int .u32 t224, .slice Ao48 t225.length co48, .slice Ao49 t228.length co49] 96 (0, 0)) (Far.Ba BK232.out) hb)
                        have n10_ := Aside0.mk (below_step (by repeat (first | (with_reducible first | exact HB.out | apply below_alloc | apply pw_below_drewN | apply below_drew1 | refine below_set ?_ GE213.out | refine below_set ?_ GE232.out) | exact HB.out)) hb)
                        clear HO189 HO192 HO195 HO208 HO211 HO219 HO227 HO230 BK213 BK232 HB
                        have HO189 := n0_
                        have HO192 := n1_
                        have HO195 := n2_
                        have HO208 := n3_
                        have HO211 := n4_
                        have HO219 := n5_
                        have HO227 := n6_
                        have HO230 := n7_
                        have BK213 := n8_
                        have BK232 := n9_
                        have HB := n10_
                        clear n0_ n1_ n2_ n3_ n4_ n5_ n6_ n7_ n8_ n9_ n10_
                        (try clear hb)
                        (try clear hb2)
                        (try clear hk)
                        (try clear hi)
                        have q109 : ((ji82) : Int) ≤ ((y217.length : Int) : Int) := of_decide_eq_true (by first | (with_reducible assumption) | assumption)
                        obtain ⟨i0109, hi0109, _, hsz109, _⟩ := info_parts info5
                        have hroom109 : y217.length ≤ co43 := (Kd.R_reads' HO219.out).2.1
                        have hC109 : Kd.C (Kd.int .u8) _ Ao43 y217.length y217 := (Kd.R_reads' HO219.out).2.2
                        have hcut109 := cut_to (P := Try.prog) 29 5 .i64 Try.underlying29 hi0109 Ao43 y217.length co43 (ji82) (of_decide_eq_true (by first | (with_reducible assumption) | assumption)) q109 hroom109
                        have hr109 := Kd.C_take (m := ((ji82) : Int).toNat) hC109 (by omega)
                        have hy109 : y241.length = ((ji82) : Int).toNat := (by rw [Ny241.out, List.length_take]; omega)
                        rw [← Ny241.out] at hr109
                        rw [← hy109] at hcut109
                        have HR244 := Aside0.mk hr109
                        have HC244 := Aside0.mk (show y241.length ≤ co43 from by omega)
                        clear hr109 hC109 hroom109 hi0109 hsz109
                        have KY109 := Aside0.mk hy109
                        clear hy109
                        have KL109 := Aside0.mk (show ((ji82) : Int).toNat ≤ y217.length from by omega)
                        replace q109 := eq_true q109
                        refine hK.out _ _ ⟨(blk_cell BK232.out 0).trans rfl, (blk_cell BK232.out 1).trans rfl, (blk_cell BK232.out 2).trans rfl, (blk_cell BK232.out 3).trans rfl, (blk_cell BK232.out 4).trans rfl, (blk_cell BK232.out 5).trans rfl, (blk_cell BK232.out 6).trans rfl⟩ (fun hHeld => ?_)
                        clear hK K
                        refine norm_ (a' := ?_) ?_ ?_
                        rotate_left
                        · show Act.put _ (some 54) _ = _
                          simp only [Act.put, List.setIfInBounds_toArray, List.set_cons_zero, List.set_cons_succ, i64_w, i32_w]
                          rfl
                        refine pure_ (i := 1) (N := some 55) (v := ?_) (a' := ?_) (Far.bm 27 3) rfl rfl (any_of HT_.out (by kernel_rfl)) (fun _ _ _ h => h) (Or.inl ⟨by rfl, ?_⟩) ?_ ?_; rotate_left; (intro w'; go_simp; with_reducible rfl); rotate_left; (simp only [Act.put, List.setIfInBounds_toArray, List.set_cons_zero, List.set_cons_succ, i64_w, i32_w]; rfl)
                        refine pure_ (i := 2) (N := some 56) (v := ?_) (a' := ?_) (Far.bm 27 7) rfl rfl (any_of HT_.out (by kernel_rfl)) (fun _ _ _ h => h) (Or.inl ⟨by rfl, ?_⟩) ?_ ?_; rotate_left; (intro w'; go_simp; with_reducible rfl); rotate_left; (simp only [Act.put, List.setIfInBounds_toArray, List.set_cons_zero, List.set_cons_succ, i64_w, i32_w]; rfl)
                        refine pure_ (i := 3) (N := some 57) (v := ?_) (a' := ?_) (Far.bm 27 15) rfl rfl (any_of HT_.out (by kernel_rfl)) (fun _ _ _ h => h) (Or.inl ⟨by rfl, ?_⟩) ?_ ?_; rotate_left; (intro w'; go_simp; with_reducible rfl); rotate_left; (simp only [Act.put, List.setIfInBounds_toArray, List.set_cons_zero, List.set_cons_succ, i64_w, i32_w]; rfl)
                        refine pure_ (i := 4) (N := some 58) (v := ?_) (a' := ?_) (Far.bm 27 31) rfl rfl (any_of HT_.out (by kernel_rfl)) (fun _ _ _ h => h) (Or.inl ⟨by rfl, ?_⟩) ?_ ?_; rotate_left; (intro w'; go_simp; with_reducible rfl); rotate_left; (simp only [Act.put, List.setIfInBounds_toArray, List.set_cons_zero, List.set_cons_succ, i64_w, i32_w]; rfl)
                        refine pure_ (i := 5) (N := some 59) (v := ?_) (a' := ?_) (Far.bm 27 63) rfl rfl (any_of HT_.out (by kernel_rfl)) (fun _ _ _ h => h) (Or.inl ⟨by rfl, ?_⟩) ?_ ?_; rotate_left; (intro w'; go_simp; with_reducible rfl); rotate_left; (simp only [Act.put, List.setIfInBounds_toArray, List.set_cons_zero, List.set_cons_succ, i64_w, i32_w]; rfl)
                        refine pure_ (i := 6) (N := some 60) (v := ?_) (a' := ?_) (Far.bm 27 127) rfl rfl (any_of HT_.out (by kernel_rfl)) (fun _ _ _ h => h) (Or.inl ⟨by rfl, ?_⟩) ?_ ?_; rotate_left; (intro w'; go_simp; with_reducible rfl); rotate_left; (simp only [Act.put, List.setIfInBounds_toArray, List.set_cons_zero, List.set_cons_succ, i64_w, i32_w]; rfl)
                        refine pure_ (i := 7) (N := some 61) (v := ?_) (a' := ?_) (Far.bm 27 255) rfl rfl (any_of HT_.out (by kernel_rfl)) (fun _ _ _ h => h) (Or.inl ⟨by rfl, ?_⟩) ?_ ?_; rotate_left; (intro w'; go_simp; with_reducible rfl); rotate_left; (simp only [Act.put, List.setIfInBounds_toArray, List.set_cons_zero, List.set_cons_succ, i64_w, i32_w]; rfl)
                        refine pure_ (i := 8) (N := some 62) (v := ?_) (a' := ?_) (Far.bm 27 511) rfl rfl (any_of HT_.out (by kernel_rfl)) (fun _ _ _ h => h) (Or.inl ⟨by rfl, ?_⟩) ?_ ?_; rotate_left; (intro w'; go_simp; with_reducible rfl); rotate_left; (simp only [Act.put, List.setIfInBounds_toArray, List.set_cons_zero, List.set_cons_succ, i64_w, i32_w]; rfl)
                        refine pure_ (i := 9) (N := some 63) (v := ?_) (a' := ?_) (Far.bm 27 1023) rfl rfl (any_of HT_.out (by kernel_rfl)) (fun _ _ _ h => h) (Or.inl ⟨by rfl, ?_⟩) ?_ ?_; rotate_left; (intro w'; go_simp; with_reducible rfl); rotate_left; (simp only [Act.put, List.setIfInBounds_toArray, List.set_cons_zero, List.set_cons_succ, i64_w, i32_w]; rfl)
                        refine take_ (i := 10) (N := some 64) (v := ?_) (a' := ?_) (Far.bm 27 2047) rfl rfl (take_ofW HT_.out HW_.out (by kernel_rfl)) (fun _ _ _ h => h) (Or.inl ⟨by rfl, ?_⟩) hHeld ?_ ?_; rotate_left; (rintro w' ⟨s0, s1, s2, s3, s4, s5, s6⟩; go_simp; with_reducible rfl); rotate_left; (simp only [Act.put, List.setIfInBounds_toArray, List.set_cons_zero, List.set_cons_succ, i64_w, i32_w]; rfl)
                        refine pure_ (i := 11) (N := some 65) (v := ?_) (a' := ?_) (Far.bm 27 4095) rfl rfl (any_of HT_.out (by kernel_rfl)) (fun _ _ _ h => h) (Or.inl ⟨by rfl, ?_⟩) ?_ ?_; rotate_left; (intro w'; go_simp; with_reducible rfl); rotate_left; (simp only [Act.put, List.setIfInBounds_toArray, List.set_cons_zero, List.set_cons_succ, i64_w, i32_w]; rfl)
                        refine pure_ (i := 12) (N := some 66) (v := ?_) (a' := ?_) (Far.bm 27 8191) rfl rfl (any_of HT_.out (by kernel_rfl)) (fun _ _ _ h => h) (Or.inl ⟨by rfl, ?_⟩) ?_ ?_; rotate_left; (intro w'; go_simp; with_reducible rfl); rotate_left; (simp only [Act.put, List.setIfInBounds_toArray, List.set_cons_zero, List.set_cons_succ, i64_w, i32_w]; rfl)
                        refine pure_ (i := 13) (N := some 67) (v := ?_) (a' := ?_) (Far.bm 27 16383) rfl rfl (any_of HT_.out (by kernel_rfl)) (fun _ _ _ h => h) (Or.inl ⟨by rfl, ?_⟩) ?_ ?_; rotate_left; (intro w'; go_simp; with_reducible rfl); rotate_left; (simp only [Act.put, List.setIfInBounds_toArray, List.set_cons_zero, List.set_cons_succ, i64_w, i32_w]; rfl)
                        refine pure_ (i := 14) (N := some 68) (v := ?_) (a' := ?_) (Far.bm 27 32767) rfl rfl (any_of HT_.out (by kernel_rfl)) (fun _ _ _ h => h) (Or.inl ⟨by rfl, ?_⟩) ?_ ?_; rotate_left; (intro w'; go_simp; with_reducible rfl); rotate_left; (simp only [Act.put, List.setIfInBounds_toArray, List.set_cons_zero, List.set_cons_succ, i64_w, i32_w]; rfl)
                        refine pure_ (i := 15) (N := some 69) (v := ?_) (a' := ?_) (Far.bm 27 65535) rfl rfl (any_of HT_.out (by kernel_rfl)) (fun _ _ _ h => h) (Or.inl ⟨by rfl, ?_⟩) ?_ ?_; rotate_left; (intro w'; go_simp; with_reducible rfl); rotate_left; (simp only [Act.put, List.setIfInBounds_toArray, List.set_cons_zero, List.set_cons_succ, i64_w, i32_w]; rfl)
                        refine pure_ (i := 16) (N := some 70) (v := ?_) (a' := ?_) (Far.bm 27 131071) rfl rfl (any_of HT_.out (by kernel_rfl)) (fun _ _ _ h => h) (Or.inl ⟨by rfl, ?_⟩) ?_ ?_; rotate_left; (intro w'; go_simp; with_reducible rfl); rotate_left; (simp only [Act.put, List.setIfInBounds_toArray, List.set_cons_zero, List.set_cons_succ, i64_w, i32_w]; rfl)
                        refine pure_ (i := 17) (N := some 71) (v := ?_) (a' := ?_) (Far.bm 27 262143) rfl rfl (any_of HT_.out (by kernel_rfl)) (fun _ _ _ h => h) (Or.inl ⟨by rfl, ?_⟩) ?_ ?_; rotate_left; (intro w'; go_simp; with_reducible rfl); rotate_left; (simp only [Act.put, List.setIfInBounds_toArray, List.set_cons_zero, List.set_cons_succ, i64_w, i32_w]; rfl)
                        refine pure_ (i := 18) (N := some 72) (v := ?_) (a' := ?_) (Far.bm 27 524287) rfl rfl (any_of HT_.out (by kernel_rfl)) (fun _ _ _ h => h) (Or.inl ⟨by rfl, ?_⟩) ?_ ?_; rotate_left; (intro w'; go_simp; with_reducible rfl); rotate_left; (simp only [Act.put, List.setIfInBounds_toArray, List.set_cons_zero, List.set_cons_succ, i64_w, i32_w]; rfl)
                        refine pure_ (i := 21) (N := some 75) (v := ?_) (a' := ?_) (Far.bm 27 2621439) rfl rfl (any_of HT_.out (by kernel_rfl)) (fun _ _ _ h => h) (Or.inl ⟨by rfl, ?_⟩) ?_ ?_; rotate_left; (intro w'; go_simp; with_reducible rfl); rotate_left; (simp only [Act.put, List.setIfInBounds_toArray, List.set_cons_zero, List.set_cons_succ, i64_w, i32_w]; rfl)
                        refine join_ (σ := Value) 4 (Far.bm 27 8388607) (fun s_ => [(73, s_), (74, .string (strOfNums t245)), (76, .string (strOfNums y217))]) (fun s_ w' => (w'.cell? ⟨gb232, 0, none⟩ = some (.int .i64 t220) ∧ w'.cell? ⟨gb232, 1, none⟩ = some (.int .u64 t221) ∧ w'.cell? ⟨gb232, 2, none⟩ = some (.int .i64 t222) ∧ w'.cell? ⟨gb232, 3, none⟩ = some (.int .i64 t223) ∧ w'.cell? ⟨gb232, 4, none⟩ = some (.int .u32 t224) ∧ w'.cell? ⟨gb232, 5, none⟩ = some (.slice Ao48 t225.length co48) ∧ w'.cell? ⟨gb232, 6, none⟩ = some (.slice Ao49 t228.length co49)) ∧ (Kd.R (Kd.int .i64) 3 w' w.heap.size (fun k_ => some k_ ≠ (.slice Ao39 t206.length co39 : Value).ownBlock ∧ some k_ ≠ (.slice Ao48 t225.length co48 : Value).ownBlock) (.slice Ao31 t187.length co31) t187) ∧ (Kd.R (Kd.int .u8) 5 w' w.heap.size (fun k_ => some k_ ≠ (.slice Ao34 t193.length co34 : Value).ownBlock ∧ some k_ ≠ (.slice Ao40 t209.length co40 : Value).ownBlock ∧ some k_ ≠ (.slice Ao43 y217.length co43 : Value).ownBlock ∧ some k_ ≠ (.slice Ao49 t228.length co49 : Value).ownBlock ∧ some k_ ≠ (s_ : Value).ownBlock) (.slice Ao32 t190.length co32) t190) ∧ (Kd.R (Kd.int .u8) 5 w' w.heap.size (fun k_ => some k_ ≠ (.slice Ao32 t190.length co32 : Value).ownBlock ∧ some k_ ≠ (.slice Ao40 t209.length co40 : Value).ownBlock ∧ some k_ ≠ (.slice Ao43 y217.length co43 : Value).ownBlock ∧ some k_ ≠ (.slice Ao49 t228.length co49 : Value).ownBlock ∧ some k_ ≠ (s_ : Value).ownBlock) (.slice Ao34 t193.length co34) t193) ∧ (Kd.R (Kd.int .i64) 3 w' w.heap.size (fun k_ => some k_ ≠ (.slice Ao31 t187.length co31 : Value).ownBlock ∧ some k_ ≠ (.slice Ao48 t225.length co48 : Value).ownBlock) (.slice Ao39 t206.length co39) t206) ∧ (Kd.R (Kd.int .u8) 5 w' w.heap.size (fun k_ => some k_ ≠ (.slice Ao32 t190.length co32 : Value).ownBlock ∧ some k_ ≠ (.slice Ao34 t193.length co34 : Value).ownBlock ∧ some k_ ≠ (.slice Ao43 y217.length co43 : Value).ownBlock ∧ some k_ ≠ (.slice Ao49 t228.length co49 : Value).ownBlock ∧ some k_ ≠ (s_ : Value).ownBlock) (.slice Ao40 t209.length co40) t209) ∧ (Kd.R (Kd.int .u8) 5 w' w.heap.size (fun k_ => some k_ ≠ (.slice Ao32 t190.length co32 : Value).ownBlock ∧ some k_ ≠ (.slice Ao34 t193.length co34 : Value).ownBlock ∧ some k_ ≠ (.slice Ao40 t209.length co40 : Value).ownBlock ∧ some k_ ≠ (.slice Ao49 t228.length co49 : Value).ownBlock ∧ some k_ ≠ (s_ : Value).ownBlock) (.slice Ao43 y217.length co43) y217) ∧ (Kd.R (Kd.int .i64) 3 w' w.heap.size (fun k_ => some k_ ≠ (.slice Ao31 t187.length co31 : Value).ownBlock ∧ some k_ ≠ (.slice Ao39 t206.length co39 : Value).ownBlock) (.slice Ao48 t225.length co48) t225) ∧ (Kd.R (Kd.int .u8) 5 w' w.heap.size (fun k_ => some k_ ≠ (.slice Ao32 t190.length co32 : Value).ownBlock ∧ some k_ ≠ (.slice Ao34 t193.length co34 : Value).ownBlock ∧ some k_ ≠ (.slice Ao40 t209.length co40 : Value).ownBlock ∧ some k_ ≠ (.slice Ao43 y217.length co43 : Value).ownBlock ∧ some k_ ≠ (s_ : Value).ownBlock) (.slice Ao49 t228.length co49) t228) ∧ (Kd.R (Kd.int .u8) 5 w' w.heap.size (fun k_ => some k_ ≠ (.slice Ao32 t190.length co32 : Value).ownBlock ∧ some k_ ≠ (.slice Ao34 t193.length co34 : Value).ownBlock ∧ some k_ ≠ (.slice Ao40 t209.length co40 : Value).ownBlock ∧ some k_ ≠ (.slice Ao43 y217.length co43 : Value).ownBlock ∧ some k_ ≠ (.slice Ao49 t228.length co49 : Value).ownBlock) s_ t245) ∧ (w'.heap[gb213]? = some (.cells #[.int .i64 t201, .int .u64 t202, .int .i64 t203, .int .i64 t204, .int .u32 t205, .slice Ao39 t206.length co39, .slice Ao40 t209.length co40] 96 (0, 0))) ∧ (w'.heap[gb232]? = some (.cells #[.int .i64 t220, .int .u64 t221, .int .i64 t222, .int .i64 t223, .int .u32 t224, .slice Ao48 t225.length co48, .slice Ao49 t228.length co49] 96 (0, 0))) ∧ (Below w.heap.size w w')) ?_ ?_
                        rotate_left
                        · intro hCont
                          refine two_ (i := 19) (j := 22) (Ni := some 73) (Nj := some 76) (Far.bm 27 3145727) (Far.bm 27 6815743) rfl rfl rfl rfl (two_of HT_.out (by kernel_rfl)) (by decide) (by decide) (fun K hK => ?_) (fun K hK => ?_)
                          · skip
                            refine goes_ Try.func51 (by kernel_rfl) rfl #[.slice Ao43 y241.length co43] (by rfl) rfl rfl (by (try simp only [List.map_toArray, List.map_cons, List.map_nil]); first | done | rfl | (simp only [List.length_drop, List.length_take]; rfl) | (simp only [KY109.out]; done) | (simp only [KY109.out]; rfl)) ?_
                            with_reducible refine (scullerref02_Seal.calls k _ _ y241 t245 _ ?side1 ?side2 A85.out).mono ?_
                            (case side1 => repeat (first | exact (by repeat (first | (with_reducible exact HR244.out) | (with_reducible refine Kd.C_alloc ?_ _) | (with_reducible refine Kd.C_drewN ?_ _) | (with_reducible refine Kd.C_drew ?_) | exact HR244.out)) | (with_reducible refine Kd.C_alloc ?_ _) | (with_reducible refine Kd.C_drewN ?_ _) | (with_reducible refine Kd.C_drew ?_)))
                            (case side2 => exact HC244.out)
                            rintro e w110 ⟨v246, rfl, ho0, hb⟩
                            refine ⟨_, rfl, ?_⟩
                            have n0_ := Aside0.mk (Kd.R_below (Far.Ra HO189.out) hb)
                            have n1_ := Aside0.mk (Kd.R_elder' (Far.Ra HO192.out) (Kd.R_base ho0) hb)
                            have n2_ := Aside0.mk (Kd.R_elder' (Far.Ra HO195.out) (Kd.R_base ho0) hb)
                            have n3_ := Aside0.mk (Kd.R_below (Far.Ra HO208.out) hb)
                            have n4_ := Aside0.mk (Kd.R_elder' (Far.Ra HO211.out) (Kd.R_base ho0) hb)
                            have n5_ := Aside0.mk (Kd.R_elder' (Far.Ra HO219.out) (Kd.R_base ho0) hb)
                            have n6_ := Aside0.mk (Kd.R_below (Far.Ra HO227.out) hb)
                            have n7_ := Aside0.mk (Kd.R_elder' (Far.Ra HO230.out) (Kd.R_base ho0) hb)
                            have n8_ := Aside0.mk (Kd.R_lower (Kd.R_new' (Kd.R_new' (Kd.R_new' (Kd.R_new' (Kd.R_new' ho0 (Kd.R_lt (Far.Ra HO192.out))) (Kd.R_lt (Far.Ra HO195.out))) (Kd.R_lt (Far.Ra HO211.out))) (Kd.R_lt (Far.Ra HO219.out))) (Kd.R_lt (Far.Ra HO230.out))) (below_size (by repeat (first | (with_reducible first | exact HB.out | apply below_alloc | apply pw_below_drewN | apply below_drew1 | refine below_set ?_ GE213.out | refine below_set ?_ GE232.out) | exact HB.out))))
                            have n9_ := Aside0.mk (blk_below (g := gb213) (o := .cells #[.int .i64 t201, .int .u64 t202, .int .i64 t203, .int .i64 t204, .int .u32 t205, .slice Ao39 t206.length co39, .slice Ao40 t209.length co40] 96 (0, 0)) (Far.Ba BK213.out) hb)
                            have n10_ := Aside0.mk (blk_below (g := gb232) (o := .cells #[.int .i64 t220, .int .u64 t221, .int .i64 t222, .int .i64 t223, .int .u32 t224, .slice Ao48 t225.length co48, .slice Ao49 t228.length co49] 96 (0, 0)) (Far.Ba BK232.out) hb)
                            have n11_ := Aside0.mk (Kd.C_below (by repeat (first | (with_reducible exact HR244.out) | (with_reducible refine Kd.C_alloc ?_ _) | (with_reducible refine Kd.C_drewN ?_ _) | (with_reducible refine Kd.C_drew ?_) | exact HR244.out)) hb)
                            have n12_ := Aside0.mk (below_step (by repeat (first | (with_reducible first | exact HB.out | apply below_alloc | apply pw_below_drewN | apply below_drew1 | refine below_set ?_ GE213.out | refine below_set ?_ GE232.out) | exact HB.out)) hb)
                            clear HO189 HO192 HO195 HO208 HO211 HO219 HO227 HO230 BK213 BK232 HR244 HB
                            have HO189 := n0_
                            have HO192 := n1_
                            have HO195 := n2_
                            have HO208 := n3_
                            have HO211 := n4_
                            have HO219 := n5_
                            have HO227 := n6_
                            have HO230 := n7_
                            have HO247 := n8_
                            have BK213 := n9_
                            have BK232 := n10_
                            have HR244 := n11_
                            have HB := n12_
                            clear n0_ n1_ n2_ n3_ n4_ n5_ n6_ n7_ n8_ n9_ n10_ n11_ n12_
                            (try clear hb)
                            (try clear hb2)
                            (try clear hk)
                            (try clear hi)
                            (try clear ho0)
                            refine hK.out _ _ ⟨(blk_cell BK232.out 0).trans rfl, (blk_cell BK232.out 1).trans rfl, (blk_cell BK232.out 2).trans rfl, (blk_cell BK232.out 3).trans rfl, (blk_cell BK232.out 4).trans rfl, (blk_cell BK232.out 5).trans rfl, (blk_cell BK232.out 6).trans rfl⟩ (fun hHeld => ?_)
                            clear hK K
                            refine norm_ (a' := ?_) ?_ ?_
                            rotate_left
                            · show Act.put _ (some 73) _ = _
                              simp only [Act.put, List.setIfInBounds_toArray, List.set_cons_zero, List.set_cons_succ, i64_w, i32_w]
                              rfl
                            refine two_ (i := 20) (j := 22) (Ni := some 74) (Nj := some 76) (Far.bm 27 4194303) (Far.bm 27 7340031) rfl rfl rfl rfl (two_of HT_.out (by kernel_rfl)) (by decide) (by decide) (fun K hK => ?_) (fun K hK => ?_)
                            · skip
                              have hcv111 := own_string (P := Try.prog) Try.underlying29 Try.underlying5 Try.underlying9 (Kd.own_of_R HO247.out)
                              refine value_ (w1 := ?_) (v := ?_) (by rfl) rfl ?_ ?_
                              rotate_left 2
                              · go_simp
                                constructor
                                · rfl
                                · rfl
                              clear hcv111
                              refine hK.out _ _ ⟨(blk_cell BK232.out 0).trans rfl, (blk_cell BK232.out 1).trans rfl, (blk_cell BK232.out 2).trans rfl, (blk_cell BK232.out 3).trans rfl, (blk_cell BK232.out 4).trans rfl, (blk_cell BK232.out 5).trans rfl, (blk_cell BK232.out 6).trans rfl⟩ (fun hHeld => ?_)
                              clear hK K
                              refine norm_ (a' := ?_) ?_ ?_
                              rotate_left
                              · show Act.put _ (some 74) _ = _
                                simp only [Act.put, List.setIfInBounds_toArray, List.set_cons_zero, List.set_cons_succ, i64_w, i32_w]
                                rfl
                              refine one_ (i := 22) (N := some 76) (Far.bm 27 8388607) rfl rfl (one_of HT_.out (by kernel_rfl)) (by decide) (fun K hK => ?_)
                              have hcv112 := own_string (P := Try.prog) Try.underlying29 Try.underlying5 Try.underlying9 (Kd.own_of_R HO219.out)
                              refine value_ (w1 := ?_) (v := ?_) (by rfl) rfl ?_ ?_
                              rotate_left 2
                              · go_simp
                                constructor
                                · rfl
                                · rfl
                              clear hcv112
                              refine hK.out _ _ ⟨(blk_cell BK232.out 0).trans rfl, (blk_cell BK232.out 1).trans rfl, (blk_cell BK232.out 2).trans rfl, (blk_cell BK232.out 3).trans rfl, (blk_cell BK232.out 4).trans rfl, (blk_cell BK232.out 5).trans rfl, (blk_cell BK232.out 6).trans rfl⟩ (fun hHeld => ?_)
                              clear hK K
                              refine norm_ (a' := ?_) ?_ ?_
                              rotate_left
                              · show Act.put _ (some 76) _ = _
                                simp only [Act.put, List.setIfInBounds_toArray, List.set_cons_zero, List.set_cons_succ, i64_w, i32_w]
                                rfl
                              exact norm_ (by simp only [putAll, Act.put, List.setIfInBounds_toArray, List.set_cons_zero, List.set_cons_succ]) (hCont (v246) _ ⟨hHeld, (Far.Ra HO189.out), (Far.Ra (Kd.R_mono HO192.out (fun _ hk => ⟨hk.1.1, ⟨hk.1.2.1, ⟨hk.1.2.2.1, ⟨hk.1.2.2.2, hk.2⟩⟩⟩⟩))), (Far.Ra (Kd.R_mono HO195.out (fun _ hk => ⟨hk.1.1, ⟨hk.1.2.1, ⟨hk.1.2.2.1, ⟨hk.1.2.2.2, hk.2⟩⟩⟩⟩))), (Far.Ra HO208.out), (Far.Ra (Kd.R_mono HO211.out (fun _ hk => ⟨hk.1.1, ⟨hk.1.2.1, ⟨hk.1.2.2.1, ⟨hk.1.2.2.2, hk.2⟩⟩⟩⟩))), (Far.Ra (Kd.R_mono HO219.out (fun _ hk => ⟨hk.1.1, ⟨hk.1.2.1, ⟨hk.1.2.2.1, ⟨hk.1.2.2.2, hk.2⟩⟩⟩⟩))), (Far.Ra HO227.out), (Far.Ra (Kd.R_mono HO230.out (fun _ hk => ⟨hk.1.1, ⟨hk.1.2.1, ⟨hk.1.2.2.1, ⟨hk.1.2.2.2, hk.2⟩⟩⟩⟩))), (Far.Ra (Kd.R_mono HO247.out (fun _ hk => ⟨hk.1.1.1.1.2, ⟨hk.1.1.1.2, ⟨hk.1.1.2, ⟨hk.1.2, hk.2⟩⟩⟩⟩))), (Far.Ba BK213.out), (Far.Ba BK232.out), (by repeat (first | (with_reducible first | exact HB.out | apply below_alloc | apply pw_below_drewN | apply below_drew1 | refine below_set ?_ GE213.out | refine below_set ?_ GE232.out) | exact HB.out))⟩)
                            · skip
                              have hcv111 := own_string (P := Try.prog) Try.underlying29 Try.underlying5 Try.underlying9 (Kd.own_of_R HO219.out)
                              refine value_ (w1 := ?_) (v := ?_) (by rfl) rfl ?_ ?_
                              rotate_left 2
                              · go_simp
                                constructor
                                · rfl
                                · rfl
                              clear hcv111
                              refine hK.out _ _ ⟨(blk_cell BK232.out 0).trans rfl, (blk_cell BK232.out 1).trans rfl, (blk_cell BK232.out 2).trans rfl, (blk_cell BK232.out 3).trans rfl, (blk_cell BK232.out 4).trans rfl, (blk_cell BK232.out 5).trans rfl, (blk_cell BK232.out 6).trans rfl⟩ (fun hHeld => ?_)
                              clear hK K
                              refine norm_ (a' := ?_) ?_ ?_
                              rotate_left
                              · show Act.put _ (some 76) _ = _
                                simp only [Act.put, List.setIfInBounds_toArray, List.set_cons_zero, List.set_cons_succ, i64_w, i32_w]
                                rfl
                              refine one_ (i := 20) (N := some 74) (Far.bm 27 8388607) rfl rfl (one_of HT_.out (by kernel_rfl)) (by decide) (fun K hK => ?_)
                              have hcv112 := own_string (P := Try.prog) Try.underlying29 Try.underlying5 Try.underlying9 (Kd.own_of_R HO247.out)
                              refine value_ (w1 := ?_) (v := ?_) (by rfl) rfl ?_ ?_
                              rotate_left 2
                              · go_simp
                                constructor
                                · rfl
                                · rfl
                              clear hcv112
                              refine hK.out _ _ ⟨(blk_cell BK232.out 0).trans rfl, (blk_cell BK232.out 1).trans rfl, (blk_cell BK232.out 2).trans rfl, (blk_cell BK232.out 3).trans rfl, (blk_cell BK232.out 4).trans rfl, (blk_cell BK232.out 5).trans rfl, (blk_cell BK232.out 6).trans rfl⟩ (fun hHeld => ?_)
                              clear hK K
                              refine norm_ (a' := ?_) ?_ ?_
                              rotate_left
                              · show Act.put _ (some 74) _ = _
                                simp only [Act.put, List.setIfInBounds_toArray, List.set_cons_zero, List.set_cons_succ, i64_w, i32_w]
                                rfl
                              exact norm_ (by simp only [putAll, Act.put, List.setIfInBounds_toArray, List.set_cons_zero, List.set_cons_succ]) (hCont (v246) _ ⟨hHeld, (Far.Ra HO189.out), (Far.Ra (Kd.R_mono HO192.out (fun _ hk => ⟨hk.1.1, ⟨hk.1.2.1, ⟨hk.1.2.2.1, ⟨hk.1.2.2.2, hk.2⟩⟩⟩⟩))), (Far.Ra (Kd.R_mono HO195.out (fun _ hk => ⟨hk.1.1, ⟨hk.1.2.1, ⟨hk.1.2.2.1, ⟨hk.1.2.2.2, hk.2⟩⟩⟩⟩))), (Far.Ra HO208.out), (Far.Ra (Kd.R_mono HO211.out (fun _ hk => ⟨hk.1.1, ⟨hk.1.2.1, ⟨hk.1.2.2.1, ⟨hk.1.2.2.2, hk.2⟩⟩⟩⟩))), (Far.Ra (Kd.R_mono HO219.out (fun _ hk => ⟨hk.1.1, ⟨hk.1.2.1, ⟨hk.1.2.2.1, ⟨hk.1.2.2.2, hk.2⟩⟩⟩⟩))), (Far.Ra HO227.out), (Far.Ra (Kd.R_mono HO230.out (fun _ hk => ⟨hk.1.1, ⟨hk.1.2.1, ⟨hk.1.2.2.1, ⟨hk.1.2.2.2, hk.2⟩⟩⟩⟩))), (Far.Ra (Kd.R_mono HO247.out (fun _ hk => ⟨hk.1.1.1.1.2, ⟨hk.1.1.1.2, ⟨hk.1.1.2, ⟨hk.1.2, hk.2⟩⟩⟩⟩))), (Far.Ba BK213.out), (Far.Ba BK232.out), (by repeat (first | (with_reducible first | exact HB.out | apply below_alloc | apply pw_below_drewN | apply below_drew1 | refine below_set ?_ GE213.out | refine below_set ?_ GE232.out) | exact HB.out))⟩)
                          · skip
                            have hcv110 := own_string (P := Try.prog) Try.underlying29 Try.underlying5 Try.underlying9 (Kd.own_of_R HO219.out)
                            refine value_ (w1 := ?_) (v := ?_) (by rfl) rfl ?_ ?_
                            rotate_left 2
                            · go_simp
                              constructor
                              · rfl
                              · rfl
                            clear hcv110
                            refine hK.out _ _ ⟨(blk_cell BK232.out 0).trans rfl, (blk_cell BK232.out 1).trans rfl, (blk_cell BK232.out 2).trans rfl, (blk_cell BK232.out 3).trans rfl, (blk_cell BK232.out 4).trans rfl, (blk_cell BK232.out 5).trans rfl, (blk_cell BK232.out 6).trans rfl⟩ (fun hHeld => ?_)
                            clear hK K
                            refine norm_ (a' := ?_) ?_ ?_
                            rotate_left
                            · show Act.put _ (some 76) _ = _
                              simp only [Act.put, List.setIfInBounds_toArray, List.set_cons_zero, List.set_cons_succ, i64_w, i32_w]
                              rfl
                            refine one_ (i := 19) (N := some 73) (Far.bm 27 7340031) rfl rfl (one_of HT_.out (by kernel_rfl)) (by decide) (fun K hK => ?_)
                            refine goes_ Try.func51 (by kernel_rfl) rfl #[.slice Ao43 y241.length co43] (by rfl) rfl rfl (by (try simp only [List.map_toArray, List.map_cons, List.map_nil]); first | done | rfl | (simp only [List.length_drop, List.length_take]; rfl) | (simp only [KY109.out]; done) | (simp only [KY109.out]; rfl)) ?_
                            with_reducible refine (scullerref02_Seal.calls k _ _ y241 t245 _ ?side1 ?side2 A85.out).mono ?_
                            (case side1 => repeat (first | exact (by repeat (first | (with_reducible exact HR244.out) | (with_reducible refine Kd.C_alloc ?_ _) | (with_reducible refine Kd.C_drewN ?_ _) | (with_reducible refine Kd.C_drew ?_) | exact HR244.out)) | (with_reducible refine Kd.C_alloc ?_ _) | (with_reducible refine Kd.C_drewN ?_ _) | (with_reducible refine Kd.C_drew ?_)))
                            (case side2 => exact HC244.out)
                            rintro e w111 ⟨v246, rfl, ho0, hb⟩
                            refine ⟨_, rfl, ?_⟩
                            have n0_ := Aside0.mk (Kd.R_below (Far.Ra HO189.out) hb)
                            have n1_ := Aside0.mk (Kd.R_elder' (Far.Ra HO192.out) (Kd.R_base ho0) hb)
                            have n2_ := Aside0.mk (Kd.R_elder' (Far.Ra HO195.out) (Kd.R_base ho0) hb)
                            have n3_ := Aside0.mk (Kd.R_below (Far.Ra HO208.out) hb)
                            have n4_ := Aside0.mk (Kd.R_elder' (Far.Ra HO211.out) (Kd.R_base ho0) hb)
                            have n5_ := Aside0.mk (Kd.R_elder' (Far.Ra HO219.out) (Kd.R_base ho0) hb)
                            have n6_ := Aside0.mk (Kd.R_below (Far.Ra HO227.out) hb)
                            have n7_ := Aside0.mk (Kd.R_elder' (Far.Ra HO230.out) (Kd.R_base ho0) hb)
                            have n8_ := Aside0.mk (Kd.R_lower (Kd.R_new' (Kd.R_new' (Kd.R_new' (Kd.R_new' (Kd.R_new' ho0 (Kd.R_lt (Far.Ra HO192.out))) (Kd.R_lt (Far.Ra HO195.out))) (Kd.R_lt (Far.Ra HO211.out))) (Kd.R_lt (Far.Ra HO219.out))) (Kd.R_lt (Far.Ra HO230.out))) (below_size (by repeat (first | (with_reducible first | exact HB.out | apply below_alloc | apply pw_below_drewN | apply below_drew1 | refine below_set ?_ GE213.out | refine below_set ?_ GE232.out) | exact HB.out))))
                            have n9_ := Aside0.mk (blk_below (g := gb213) (o := .cells #[.int .i64 t201, .int .u64 t202, .int .i64 t203, .int .i64 t204, .int .u32 t205, .slice Ao39 t206.length co39, .slice Ao40 t209.length co40] 96 (0, 0)) (Far.Ba BK213.out) hb)
                            have n10_ := Aside0.mk (blk_below (g := gb232) (o := .cells #[.int .i64 t220, .int .u64 t221, .int .i64 t222, .int .i64 t223, .int .u32 t224, .slice Ao48 t225.length co48, .slice Ao49 t228.length co49] 96 (0, 0)) (Far.Ba BK232.out) hb)
                            have n11_ := Aside0.mk (Kd.C_below (by repeat (first | (with_reducible exact HR244.out) | (with_reducible refine Kd.C_alloc ?_ _) | (with_reducible refine Kd.C_drewN ?_ _) | (with_reducible refine Kd.C_drew ?_) | exact HR244.out)) hb)
                            have n12_ := Aside0.mk (below_step (by repeat (first | (with_reducible first | exact HB.out | apply below_alloc | apply pw_below_drewN | apply below_drew1 | refine below_set ?_ GE213.out | refine below_set ?_ GE232.out) | exact HB.out)) hb)
                            clear HO189 HO192 HO195 HO208 HO211 HO219 HO227 HO230 BK213 BK232 HR244 HB
                            have HO189 := n0_
                            have HO192 := n1_
                            have HO195 := n2_
                            have HO208 := n3_
                            have HO211 := n4_
                            have HO219 := n5_
                            have HO227 := n6_
                            have HO230 := n7_
                            have HO247 := n8_
                            have BK213 := n9_
                            have BK232 := n10_
                            have HR244 := n11_
                            have HB := n12_
                            clear n0_ n1_ n2_ n3_ n4_ n5_ n6_ n7_ n8_ n9_ n10_ n11_ n12_
                            (try clear hb)
                            (try clear hb2)
                            (try clear hk)
                            (try clear hi)
                            (try clear ho0)
                            refine hK.out _ _ ⟨(blk_cell BK232.out 0).trans rfl, (blk_cell BK232.out 1).trans rfl, (blk_cell BK232.out 2).trans rfl, (blk_cell BK232.out 3).trans rfl, (blk_cell BK232.out 4).trans rfl, (blk_cell BK232.out 5).trans rfl, (blk_cell BK232.out 6).trans rfl⟩ (fun hHeld => ?_)
                            clear hK K
                            refine norm_ (a' := ?_) ?_ ?_
                            rotate_left
                            · show Act.put _ (some 73) _ = _
                              simp only [Act.put, List.setIfInBounds_toArray, List.set_cons_zero, List.set_cons_succ, i64_w, i32_w]
                              rfl
                            refine one_ (i := 20) (N := some 74) (Far.bm 27 8388607) rfl rfl (one_of HT_.out (by kernel_rfl)) (by decide) (fun K hK => ?_)
                            have hcv112 := own_string (P := Try.prog) Try.underlying29 Try.underlying5 Try.underlying9 (Kd.own_of_R HO247.out)
                            refine value_ (w1 := ?_) (v := ?_) (by rfl) rfl ?_ ?_
                            rotate_left 2
                            · go_simp
                              constructor
                              · rfl
                              · rfl
                            clear hcv112
                            refine hK.out _ _ ⟨(blk_cell BK232.out 0).trans rfl, (blk_cell BK232.out 1).trans rfl, (blk_cell BK232.out 2).trans rfl, (blk_cell BK232.out 3).trans rfl, (blk_cell BK232.out 4).trans rfl, (blk_cell BK232.out 5).trans rfl, (blk_cell BK232.out 6).trans rfl⟩ (fun hHeld => ?_)
                            clear hK K
                            refine norm_ (a' := ?_) ?_ ?_
                            rotate_left
                            · show Act.put _ (some 74) _ = _
                              simp only [Act.put, List.setIfInBounds_toArray, List.set_cons_zero, List.set_cons_succ, i64_w, i32_w]
                              rfl
                            exact norm_ (by simp only [putAll, Act.put, List.setIfInBounds_toArray, List.set_cons_zero, List.set_cons_succ]) (hCont (v246) _ ⟨hHeld, (Far.Ra HO189.out), (Far.Ra (Kd.R_mono HO192.out (fun _ hk => ⟨hk.1.1, ⟨hk.1.2.1, ⟨hk.1.2.2.1, ⟨hk.1.2.2.2, hk.2⟩⟩⟩⟩))), (Far.Ra (Kd.R_mono HO195.out (fun _ hk => ⟨hk.1.1, ⟨hk.1.2.1, ⟨hk.1.2.2.1, ⟨hk.1.2.2.2, hk.2⟩⟩⟩⟩))), (Far.Ra HO208.out), (Far.Ra (Kd.R_mono HO211.out (fun _ hk => ⟨hk.1.1, ⟨hk.1.2.1, ⟨hk.1.2.2.1, ⟨hk.1.2.2.2, hk.2⟩⟩⟩⟩))), (Far.Ra (Kd.R_mono HO219.out (fun _ hk => ⟨hk.1.1, ⟨hk.1.2.1, ⟨hk.1.2.2.1, ⟨hk.1.2.2.2, hk.2⟩⟩⟩⟩))), (Far.Ra HO227.out), (Far.Ra (Kd.R_mono HO230.out (fun _ hk => ⟨hk.1.1, ⟨hk.1.2.1, ⟨hk.1.2.2.1, ⟨hk.1.2.2.2, hk.2⟩⟩⟩⟩))), (Far.Ra (Kd.R_mono HO247.out (fun _ hk => ⟨hk.1.1.1.1.2, ⟨hk.1.1.1.2, ⟨hk.1.1.2, ⟨hk.1.2, hk.2⟩⟩⟩⟩))), (Far.Ba BK213.out), (Far.Ba BK232.out), (by repeat (first | (with_reducible first | exact HB.out | apply below_alloc | apply pw_below_drewN | apply below_drew1 | refine below_set ?_ GE213.out | refine below_set ?_ GE232.out) | exact HB.out))⟩)
                        rintro v246 w113 ⟨hS_, h0_, h1_, h2_, h3_, h4_, h5_, h6_, h7_, h8_, h9_, h10_, h11_⟩
                        have n0_ : Aside0 (Kd.R (Kd.int .i64) 3 w113 w.heap.size (fun k_ => some k_ ≠ (.slice Ao39 t206.length co39 : Value).ownBlock ∧ some k_ ≠ (.slice Ao48 t225.length co48 : Value).ownBlock) (.slice Ao31 t187.length co31) t187) := ⟨h0_⟩
                        have n1_ : Aside0 (Kd.R (Kd.int .u8) 5 w113 w.heap.size (fun k_ => some k_ ≠ (.slice Ao34 t193.length co34 : Value).ownBlock ∧ some k_ ≠ (.slice Ao40 t209.length co40 : Value).ownBlock ∧ some k_ ≠ (.slice Ao43 y217.length co43 : Value).ownBlock ∧ some k_ ≠ (.slice Ao49 t228.length co49 : Value).ownBlock ∧ some k_ ≠ (v246 : Value).ownBlock) (.slice Ao32 t190.length co32) t190) := ⟨h1_⟩
                        have n2_ : Aside0 (Kd.R (Kd.int .u8) 5 w113 w.heap.size (fun k_ => some k_ ≠ (.slice Ao32 t190.length co32 : Value).ownBlock ∧ some k_ ≠ (.slice Ao40 t209.length co40 : Value).ownBlock ∧ some k_ ≠ (.slice Ao43 y217.length co43 : Value).ownBlock ∧ some k_ ≠ (.slice Ao49 t228.length co49 : Value).ownBlock ∧ some k_ ≠ (v246 : Value).ownBlock) (.slice Ao34 t193.length co34) t193) := ⟨h2_⟩
                        have n3_ : Aside0 (Kd.R (Kd.int .i64) 3 w113 w.heap.size (fun k_ => some k_ ≠ (.slice Ao31 t187.length co31 : Value).ownBlock ∧ some k_ ≠ (.slice Ao48 t225.length co48 : Value).ownBlock) (.slice Ao39 t206.length co39) t206) := ⟨h3_⟩
                        have n4_ : Aside0 (Kd.R (Kd.int .u8) 5 w113 w.heap.size (fun k_ => some k_ ≠ (.slice Ao32 t190.length co32 : Value).ownBlock ∧ some k_ ≠ (.slice Ao34 t193.length co34 : Value).ownBlock ∧ some k_ ≠ (.slice Ao43 y217.length co43 : Value).ownBlock ∧ some k_ ≠ (.slice Ao49 t228.length co49 : Value).ownBlock ∧ some k_ ≠ (v246 : Value).ownBlock) (.slice Ao40 t209.length co40) t209) := ⟨h4_⟩
                        have n5_ : Aside0 (Kd.R (Kd.int .u8) 5 w113 w.heap.size (fun k_ => some k_ ≠ (.slice Ao32 t190.length co32 : Value).ownBlock ∧ some k_ ≠ (.slice Ao34 t193.length co34 : Value).ownBlock ∧ some k_ ≠ (.slice Ao40 t209.length co40 : Value).ownBlock ∧ some k_ ≠ (.slice Ao49 t228.length co49 : Value).ownBlock ∧ some k_ ≠ (v246 : Value).ownBlock) (.slice Ao43 y217.length co43) y217) := ⟨h5_⟩
                        have n6_ : Aside0 (Kd.R (Kd.int .i64) 3 w113 w.heap.size (fun k_ => some k_ ≠ (.slice Ao31 t187.length co31 : Value).ownBlock ∧ some k_ ≠ (.slice Ao39 t206.length co39 : Value).ownBlock) (.slice Ao48 t225.length co48) t225) := ⟨h6_⟩
                        have n7_ : Aside0 (Kd.R (Kd.int .u8) 5 w113 w.heap.size (fun k_ => some k_ ≠ (.slice Ao32 t190.length co32 : Value).ownBlock ∧ some k_ ≠ (.slice Ao34 t193.length co34 : Value).ownBlock ∧ some k_ ≠ (.slice Ao40 t209.length co40 : Value).ownBlock ∧ some k_ ≠ (.slice Ao43 y217.length co43 : Value).ownBlock ∧ some k_ ≠ (v246 : Value).ownBlock) (.slice Ao49 t228.length co49) t228) := ⟨h7_⟩
                        have n8_ : Aside0 (Kd.R (Kd.int .u8) 5 w113 w.heap.size (fun k_ => some k_ ≠ (.slice Ao32 t190.length co32 : Value).ownBlock ∧ some k_ ≠ (.slice Ao34 t193.length co34 : Value).ownBlock ∧ some k_ ≠ (.slice Ao40 t209.length co40 : Value).ownBlock ∧ some k_ ≠ (.slice Ao43 y217.length co43 : Value).ownBlock ∧ some k_ ≠ (.slice Ao49 t228.length co49 : Value).ownBlock) v246 t245) := ⟨h8_⟩
                        have n9_ : Aside0 (w113.heap[gb213]? = some (.cells #[.int .i64 t201, .int .u64 t202, .int .i64 t203, .int .i64 t204, .int .u32 t205, .slice Ao39 t206.length co39, .slice Ao40 t209.length co40] 96 (0, 0))) := ⟨h9_⟩
                        have n10_ : Aside0 (w113.heap[gb232]? = some (.cells #[.int .i64 t220, .int .u64 t221, .int .i64 t222, .int .i64 t223, .int .u32 t224, .slice Ao48 t225.length co48, .slice Ao49 t228.length co49] 96 (0, 0))) := ⟨h10_⟩
                        have n11_ : Aside0 (Below w.heap.size w w113) := ⟨h11_⟩
                        clear HO189 HO192 HO195 HO208 HO211 HO219 HO227 HO230 BK213 BK232 HB h0_ h1_ h2_ h3_ h4_ h5_ h6_ h7_ h8_ h9_ h10_ h11_
                        have HO189 := n0_
                        have HO192 := n1_
                        have HO195 := n2_
                        have HO208 := n3_
                        have HO211 := n4_
                        have HO219 := n5_
                        have HO227 := n6_
                        have HO230 := n7_
                        have HO247 := n8_
                        have BK213 := n9_
                        have BK232 := n10_
                        have HB := n11_
                        clear n0_ n1_ n2_ n3_ n4_ n5_ n6_ n7_ n8_ n9_ n10_ n11_
                        have hHeld : w113.cell? ⟨gb232, 0, none⟩ = some (.int .i64 t220) ∧ w113.cell? ⟨gb232, 1, none⟩ = some (.int .u64 t221) ∧ w113.cell? ⟨gb232, 2, none⟩ = some (.int .i64 t222) ∧ w113.cell? ⟨gb232, 3, none⟩ = some (.int .i64 t223) ∧ w113.cell? ⟨gb232, 4, none⟩ = some (.int .u32 t224) ∧ w113.cell? ⟨gb232, 5, none⟩ = some (.slice Ao48 t225.length co48) ∧ w113.cell? ⟨gb232, 6, none⟩ = some (.slice Ao49 t228.length co49) := hS_
                        refine norm_ (a' := ?_) ?_ ?_
                        rotate_left
                        · simp only [putAll, Act.put, List.setIfInBounds_toArray, List.set_cons_zero, List.set_cons_succ]
                          rfl
                        refine pure_ (i := 23) (N := some 77) (v := ?_) (a' := ?_) (Far.bm 27 16777215) rfl rfl (any_of HT_.out (by kernel_rfl)) (fun _ _ _ h => h) (Or.inl ⟨by rfl, ?_⟩) ?_ ?_; rotate_left; (intro w'; go_simp; with_reducible rfl); rotate_left; (simp only [Act.put, List.setIfInBounds_toArray, List.set_cons_zero, List.set_cons_succ, i64_w, i32_w]; rfl)
                        refine pure_ (i := 24) (N := some 78) (v := ?_) (a' := ?_) (Far.bm 27 33554431) rfl rfl (any_of HT_.out (by kernel_rfl)) (fun _ _ _ h => h) (Or.inl ⟨by rfl, ?_⟩) ?_ ?_; rotate_left; (intro w'; go_simp; with_reducible rfl); rotate_left; (simp only [Act.put, List.setIfInBounds_toArray, List.set_cons_zero, List.set_cons_succ, i64_w, i32_w]; rfl)
                        refine pure_ (i := 25) (N := some 79) (v := ?_) (a' := ?_) (Far.bm 27 67108863) rfl rfl (any_of HT_.out (by kernel_rfl)) (fun _ _ _ h => h) (Or.inl ⟨by rfl, ?_⟩) ?_ ?_; rotate_left; (intro w'; go_simp; with_reducible rfl); rotate_left; (simp only [Act.put, List.setIfInBounds_toArray, List.set_cons_zero, List.set_cons_succ, i64_w, i32_w]; rfl)
                        refine pure_ (i := 26) (N := some 12) (v := ?_) (a' := ?_) (Far.bm 27 134217727) rfl rfl (any_of HT_.out (by kernel_rfl)) (fun _ _ _ h => h) (Or.inl ⟨by rfl, ?_⟩) ?_ ?_; rotate_left; (intro w'; go_simp; with_reducible rfl); rotate_left; (simp only [Act.put, List.setIfInBounds_toArray, List.set_cons_zero, List.set_cons_succ, i64_w, i32_w]; rfl)
                        refine done_ (done_of HT_.out (by kernel_rfl)) ?_
                        try go_wp2
                        go_ret
                        exact ⟨by first | rfl | (simp [errW_none, errW_some] <;> rfl) | (simp only [← hji15, ← hji82]; first | rfl | (simp [errW_none, errW_some] <;> rfl)) | (simp [*, errW_none, errW_some] <;> rfl), by repeat (first | (with_reducible first | exact HB.out | apply below_alloc | apply pw_below_drewN | apply below_drew1 | refine below_set ?_ GE213.out | refine below_set ?_ GE232.out) | exact HB.out)⟩
                      · rw [if_neg c84] at H
                        exact absurd H (by simp)
                    · rw [if_neg c83] at H
                      exact absurd H (by simp)
              · rw [if_neg c24] at H
                have c24b0 : (t212 == 10) = false := beq_eq_false_iff_ne.mpr c24
                have c24b1 : (t212 != 10) = true := bne_iff_ne.mpr c24
                exact absurd ((Option.some.inj H).trans HRT_.out) (by decide)
            · replace c23 := Bool.eq_false_iff.mpr c23
              subst c23
              have H1 : (some false) = some r := by rw [if_neg (show ¬ (false = true) by decide)] at H; exact H
              clear H
              have H := H1
              clear H1
              exact absurd ((Option.some.inj H).trans HRT_.out) (by decide)
          · rw [if_neg c20] at H
            exact absurd H (by simp)
        · rw [if_neg c19] at H
          exact absurd H (by simp)
      · rw [if_neg c17] at H
        exact absurd H (by simp)
    · rw [if_neg c16] at H
      exact absurd H (by simp)

/-- THE ONE PURE STATEMENT of scullerlaw13_PackCut: yours. -/
def scullerlaw13_PackCut.Pure : Prop := ∀ (a0 : Int) (a1 : Int) (l2 : List Int) (a3 : Int) (a4 : Int) (a5 : Int), (Lit.int .u64 a0).wf = true → (Lit.int .u32 a1).wf = true → l2.length ≤ maxLen → l2.length * 1 ≤ 140737488351232 → (∀ x ∈ l2, (Lit.int .u8 x).wf = true) → (Lit.int .u8 a3).wf = true → (Lit.int .u16 a4).wf = true → (Lit.int .u8 a5).wf = true → ∃ k, scullerlaw13_PackCut.f k a0 a1 l2 a3 a4 a5 = some true
theorem scullerlaw13_PackCut.walk (P : scullerlaw13_PackCut.Pure) (a0 : Int) (a1 : Int) (a2 : Option Addr) (len2 cap2 : Nat) (z2 : List Int) (a3 : Int) (a4 : Int) (a5 : Int) (w : World) (w0 : (Lit.int .u64 a0).wf = true) (w1 : (Lit.int .u32 a1).wf = true) (w2 : (a2 = none ∧ len2 = 0 ∧ cap2 = 0 ∧ z2 = []) ∨ ∃ x, a2 = some x ∧ len2 ≤ cap2 ∧ cap2 ≤ maxLen ∧ z2.length = cap2 ∧ (∀ i, i < z2.length → w.cell? (x.add i) = some (.int .u8 (z2.getD i 0))) ∧ ∀ n ∈ z2, (Lit.int .u8 n).wf = true) (y2 : len2 * 1 ≤ 140737488351232) (w3 : (Lit.int .u8 a3).wf = true) (w4 : (Lit.int .u16 a4).wf = true) (w5 : (Lit.int .u8 a5).wf = true) :
    Calls Try.prog 18 #[.int .u64 a0, .int .u32 a1, .slice a2 len2 cap2, .int .u8 a3, .int .u16 a4, .int .u8 a5] w fun e w' => e = .returned (.bool true) ∧ Below w.heap.size w w' := by
  obtain ⟨l2, rfl, hr2, hm2, hw2, hc2⟩ := ReadsInt.ofRowC w2
  obtain ⟨k, h⟩ := P a0 a1 l2 a3 a4 a5 w0 w1 hm2 y2 hw2 w3 w4 w5
  refine (scullerlaw13_PackCut.calls k a0 a1 _ _ l2 a3 a4 a5 true w (Kd.C_of_reads (d := (0 : Int)) (h1 := fun _ => rfl) hr2) hc2 h rfl).mono ?_
  rintro e w' ⟨rfl, hd⟩
  exact ⟨rfl, hd⟩

end Go.Proofs.Ytcjicfpdmegckaa.C
