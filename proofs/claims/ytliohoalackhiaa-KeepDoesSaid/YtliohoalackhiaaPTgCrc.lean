/- crc.Table, crc.More and crc.Sum compute the sum of bytes by a table of their own: for every slice of bytes, in whatever memory. -/
import Derived.WalkKit
import Derived.Lib.Hide
import Derived.Lib.LazyBuf
import Derived.OpenShut
import Derived.Deep.DeepMust
import Derived.Deep.RegionWith
import Derived.Deep.Draws
import Derived.StillTailTactics
import Derived.WalkLawsBesides
import Derived.Test.YtliohoalackhiaaPTx0
namespace Go.Proofs.Ytliohoalackhiaa.T
open Go.RowKit Go.Proofs.YtliohoalackhiaaW.PrintWords Go.Proofs.YtliohoalackhiaaW.PrintMore
set_option linter.unusedVariables false
set_option linter.unusedSimpArgs false
def stepI (n : Int) : Int := Go.bits .xor .u32 (n / 2) ((2197175160 * Go.bits .and .u32 n 1) % 4294967296)
theorem step_any (n : Int) (w : World) : Calls Try.prog 123 #[.int .u32 n] w fun e w' => e = .returned (.int .u32 (stepI n)) ∧ w = w' := by
  go_enter Try.func123, Try.ntmps123
  go_wp2
  go_ret
  exact ⟨rfl, rfl⟩
def eightI (n : Int) : Nat → Int
  | 0 => n
  | k + 1 => stepI (eightI n k)
set_option maxHeartbeats 1000000 in
theorem eight_any (n : Int) (w : World) : Calls Try.prog 122 #[.int .u32 n] w fun e w' => e = .returned (.int .u32 (eightI n 8)) ∧ w = w' := by
  go_enter Try.func122, Try.ntmps122
  go_wp2
  go_loop [0, 3, 5, 6] (fun t i _ _ => ∃ k : Nat, k ≤ 8 ∧ i = .int .i64 k ∧ t = .int .u32 (eightI n k)) (fun _ i _ _ => 8 - (intOf i).toNat)
  case atStart => exact ⟨0, by omega, rfl, rfl⟩
  case round =>
    obtain ⟨k, hk, rfl, rfl⟩ := hrel
    by_cases hlt : k < 8
    · go_wp2_with (go_at_call 123; refine (step_any _ _).mono ?_; rintro e w' ⟨rfl, rfl⟩)
      go_round
      case rel => exact ⟨k + 1, by omega, by go_num, rfl⟩
      case measure => simp [intOf]; omega
    · obtain rfl : k = 8 := by omega
      go_wp2
      go_ret
      exact ⟨rfl, rfl⟩
def tabI (i : Nat) : Int := eightI (IntKind.u32.wrap (i : Int)) 8
def TabTo (w : World) (g k : Nat) : Prop := ∃ cs : Array Value, w.heap[g]? = some (.cells cs 157 (0, 0)) ∧ cs.size = 256 ∧ (∀ j, j < 256 → ∃ x, cs[j]? = some (.int .u32 x)) ∧ ∀ j, j < k → cs[j]? = some (.int .u32 (tabI j))
theorem TabTo.cell {w : World} {g k j : Nat} (h : TabTo w g k) (hj : j < 256) : ∃ x, w.cell? ⟨g, j, none⟩ = some (.int .u32 x) ∧ w.frozen? ⟨g, j, none⟩ = false := by
  obtain ⟨cs, hh, hs, hx, _⟩ := h
  obtain ⟨x, hx⟩ := hx j hj
  exact ⟨x, by simp [World.cell?, hh, hx], by simp [World.frozen?, hh]⟩
theorem TabTo.set {w : World} {g k : Nat} (h : TabTo w g k) (hk : k < 256) : TabTo (w.setCell ⟨g, k, none⟩ (.int .u32 (tabI k))) g (k + 1) := by
  obtain ⟨cs, hh, hs, hx, ht⟩ := h
  refine ⟨cs.setIfInBounds k (.int .u32 (tabI k)), by simp [World.setCell, Array.getElem?_modify, hh], by simp [hs], fun j hj => ?_, fun j hj => ?_⟩
  · by_cases e : k = j
    · subst e; exact ⟨tabI k, by rw [Array.getElem?_setIfInBounds_self_of_lt (by omega)]⟩
    · rw [Array.getElem?_setIfInBounds_ne e]; exact hx j hj
  · by_cases e : k = j
    · subst e; rw [Array.getElem?_setIfInBounds_self_of_lt (by omega)]
    · rw [Array.getElem?_setIfInBounds_ne e]; exact ht j (by omega)
theorem TabTo.drew {w : World} {g k : Nat} (h : TabTo w g k) : TabTo w.drew g k := h
theorem TabTo.below {w w' : World} {g k B : Nat} (h : TabTo w g k) (hb : Below B w w') (hg : g < B) : TabTo w' g k := by
  obtain ⟨cs, hh, r⟩ := h
  exact ⟨cs, (hb.block g hg).trans hh, r⟩
theorem TabTo.lt {w : World} {g k : Nat} (h : TabTo w g k) : g < w.heap.size := by
  obtain ⟨cs, hh, _⟩ := h
  exact (Array.getElem?_eq_some_iff.1 hh).1
theorem zeros_size : Try.zeroCells157.size = 256 := by kernel_rfl
theorem zeros_all : Try.zeroCells157 = (List.replicate 256 (Value.int .u32 0)).toArray := by kernel_rfl
set_option maxRecDepth 100000 in
set_option maxHeartbeats 2000000 in
theorem table_any (w : World) : Calls Try.prog 78 #[] w fun e w' => ∃ g, e = .returned (.pointer (some ⟨g, 0, none⟩)) ∧ w.heap.size ≤ g ∧ TabTo w' g 256 ∧ Below w.heap.size w w' := by
  go_enter Try.func78, Try.ntmps78
  go_wp2
  go_loopw [3, 5, 6, 7, 8, 9, 10, 11, 12, 13, 14, 15, 16] (fun _ i _ _ _ _ _ _ _ _ _ _ _ wr => ∃ k : Nat, k ≤ 256 ∧ i = .int .i64 k ∧ TabTo wr w.heap.size k ∧ Below w.heap.size w wr) (fun _ i _ _ _ _ _ _ _ _ _ _ _ _ => 256 - (intOf i).toNat)
  case atStart =>
    refine ⟨0, by omega, rfl, ⟨Try.zeroCells157, by simpa using heap_alloc_new w _, zeros_size, fun j hj => ⟨0, ?_⟩, fun j hj => by omega⟩, (Below.refl _ _).alloc (Nat.le_refl _) _⟩
    rw [zeros_all, List.getElem?_toArray, List.getElem?_replicate, if_pos hj]
  case round =>
    obtain ⟨k, hk, rfl, hT, hB⟩ := hrel
    by_cases hlt : k < 256
    · obtain ⟨x, hc, hf⟩ := hT.cell hlt
      obtain ⟨tv, htv⟩ : ∃ tv, tabI k = tv := ⟨_, rfl⟩
      have HE : ∀ w : World, Calls Try.prog 122 #[.int .u32 (IntKind.u32.wrap (k : Int))] w fun e w' => e = .returned (.int .u32 tv) ∧ w' = w := fun w => (eight_any _ w).mono fun _ _ h => ⟨by rw [h.1, ← htv]; rfl, h.2.symm⟩
      have HE2 := Lib.hid HE
      have HV := Lib.hid htv
      clear HE htv
      go_wp2_with fail
      go_still_tail 8, (by kernel_rfl)
      still_call (HE2.out _)
      repeat still_step
      refine wpStill_nil ?_
      change wpList _ _ _ _ _ wr.drew
      generalize hq : wr.drew = w2
      have hT2 : TabTo w2 w.heap.size k := by rw [← hq]; exact hT.drew
      have hB2 : Below w.heap.size w w2 := by rw [← hq]; exact hB.drew
      have hc2 : w2.cell? ⟨w.heap.size, k, none⟩ = some (.int .u32 x) := by rw [← hq]; exact hc
      have hf2 : w2.frozen? ⟨w.heap.size, k, none⟩ = false := by rw [← hq]; exact hf
      clear hq hT hB hc hf
      go_wp2
      go_roundw
      case rel => exact ⟨k + 1, by omega, by go_num, by have := hT2.set hlt; rw [HV.out] at this; exact this, hB2.setCell (p := ⟨w.heap.size, k, none⟩) (Nat.le_refl _) _⟩
      case measure => simp [intOf]; omega
    · obtain rfl : k = 256 := by omega
      go_wp2
      go_ret
      exact ⟨_, rfl, Nat.le_refl _, hT, hB⟩
def TabIs (w : World) (g : Nat) (T : Nat → Int) : Prop := ∀ j, j < 256 → w.cell? ⟨g, j, none⟩ = some (.int .u32 (T j))
def mstep (T : Nat → Int) (n c : Int) : Int := Go.bits .xor .u32 (n / 256) (T (Go.bits .xor .u8 (n % 256) c).toNat)
def compl (n : Int) : Int := Go.bits .xor .u32 IntKind.u32.max n
def moreI (T : Nat → Int) (n : Int) (l : List Int) : Int := compl (l.foldl (mstep T) (compl n))
theorem take_snoc {l : List Int} {k : Nat} (h : k < l.length) : l.take (k + 1) = l.take k ++ [l.getD k 0] := by
  rw [List.take_succ_eq_append_getElem h, List.getD_eq_getElem?_getD, List.getElem?_eq_getElem h]; rfl
theorem xor8 (a b : Int) : 0 ≤ Go.bits .xor .u8 a b ∧ Go.bits .xor .u8 a b ≤ 255 := bounds_u8 (wf_bits _ _ _ _)
set_option maxRecDepth 100000 in
set_option maxHeartbeats 2000000 in
theorem more_any (g : Nat) (T : Nat → Int) (n : Int) (A : Option Addr) (c : Nat) (l : List Int) (w : World) (hT : TabIs w g T) (hr : ReadsInt w .u8 A l.length l) :
    Calls Try.prog 80 #[.pointer (some ⟨g, 0, none⟩), .int .u32 n, .slice A l.length c] w fun e w' => e = .returned (.int .u32 (moreI T n l)) ∧ w = w' := by
  have hl := hr.2.1
  go_enter Try.func80, Try.ntmps80
  go_wp2
  go_loop [1, 8, 15, 16, 17, 18, 19, 20, 21, 22, 23, 24, 25, 26, 27, 28, 29, 30] (fun t _ i _ _ _ _ _ _ _ _ _ _ _ _ _ _ _ => ∃ k : Nat, k ≤ l.length ∧ i = .int .i64 k ∧ t = .int .u32 ((l.take k).foldl (mstep T) (compl n))) (fun _ _ i _ _ _ _ _ _ _ _ _ _ _ _ _ _ _ => l.length - (intOf i).toNat)
  case atStart => exact ⟨0, by omega, rfl, rfl⟩
  case round =>
    obtain ⟨k, hk, rfl, rfl⟩ := hrel
    by_cases hlt : k < l.length
    · obtain ⟨ad, rfl, hc⟩ := hr.2.2 (by omega)
      have hcx := hc k hlt
      have HN := Lib.hid (show (l.take (k + 1)).foldl (mstep T) (compl n) = mstep T ((l.take k).foldl (mstep T) (compl n)) (l.getD k 0) by
        rw [take_snoc hlt, List.foldl_append]; rfl)
      obtain ⟨m, hm⟩ : ∃ m, (l.take k).foldl (mstep T) (compl n) = m := ⟨_, rfl⟩
      obtain ⟨cv, hcv⟩ : ∃ cv, l.getD k 0 = cv := ⟨_, rfl⟩
      rw [hm, hcv] at HN
      rw [hcv] at hcx
      rw [hm]
      clear hm hcv
      obtain ⟨x0, x1⟩ := xor8 (m % 256) cv
      obtain ⟨i, hi⟩ : ∃ i : Nat, Go.bits .xor .u8 (m % 256) cv = (i : Int) := ⟨(Go.bits .xor .u8 (m % 256) cv).toNat, by omega⟩
      rw [hi] at x0 x1
      have hTi := hT i (by omega)
      have HE := Lib.hid (show mstep T m cv = Go.bits .xor .u32 (m / 256) (T i) by unfold mstep; rw [hi]; rfl)
      have hi255 : i < 256 := by omega
      clear hc hT x0 x1
      go_wp2
      go_round
      case rel => exact ⟨k + 1, by omega, by go_num, by rw [HN.out, HE.out]⟩
      case measure => simp [intOf]; omega
    · obtain rfl : k = l.length := by omega
      go_wp2
      go_ret
      exact ⟨by first | rfl | (simp; rfl) | (rw [List.take_length]; rfl), rfl⟩
theorem TabTo.is {w : World} {g : Nat} (h : TabTo w g 256) : TabIs w g tabI := fun j hj => by
  obtain ⟨cs, hh, hs, _, ht⟩ := h
  simp [World.cell?, hh, ht j hj]
def crc_Sum.f (l0 : List Int) : Option (Int) := some (moreI tabI 0 l0)
set_option maxHeartbeats 1000000 in
theorem crc_Sum.calls (A0 : Option Addr) (c0 : Nat) (l0 : List Int) (r : Int) (w : World) (hr0 : Kd.C (Kd.int .u8) w A0 l0.length l0) (hc0 : l0.length ≤ c0) (h : crc_Sum.f l0 = some r) :
    Calls Try.prog 153 #[.slice A0 l0.length c0] w fun e w' => e = .returned (.int .u32 r) ∧ Below w.heap.size w w' := by
  obtain rfl := Option.some.inj h
  have hr : ReadsInt w .u8 A0 l0.length l0 := Kd.reads_of_C (d := (0 : Int)) hr0
  have HR0 := Aside0.mk hr
  clear h hr0 hr
  go_enter Try.func153, Try.ntmps153
  go_wp2_with fail
  refine (table_any w).mono ?_
  rintro e w1 ⟨g, rfl, hg, hT, hB⟩
  have HT := Aside0.mk hT.is
  clear hT
  go_wp2_with fail
  refine (more_any g tabI 0 A0 c0 l0 w1 HT.out (HR0.out.below hB)).mono ?_
  rintro e w2 ⟨rfl, rfl⟩
  go_wp2
  go_ret
  exact ⟨rfl, hB⟩
end Go.Proofs.Ytliohoalackhiaa.T
