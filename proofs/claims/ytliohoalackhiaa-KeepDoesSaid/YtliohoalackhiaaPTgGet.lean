/- word.Get computes the number of the first eight bytes, the least first: for every slice of bytes, in whatever memory. -/
import Derived.RangeFuncNested
import Derived.RangeFuncBound
import Derived.RangeFuncCalls
import Derived.RangeFuncLeaves
import Derived.Shelf.Abstract
import Derived.Shelf.RegionOpen
import Derived.WalkKit
import Derived.OwnWalkIn
import Derived.TacticsInMore
import Derived.LoopNIn
import Derived.LoopIn
import Derived.Lib.Hide
import Derived.Test.YtliohoalackhiaaPTx0
namespace Go.Proofs.Ytliohoalackhiaa.T
open Go.RowKit Go.Shelf Go.Proofs.YtliohoalackhiaaW.PrintWords Go.Proofs.YtliohoalackhiaaW.PrintMore
attribute [local go_sem] max2_int min2_int max_two min_two
set_option linter.unusedVariables false
set_option linter.unusedSimpArgs false
attribute [local go_sem] Oper.semAt_some
structure Kb (ok : Nat → Prop) (A B : World) : Prop where
  size : A.heap.size ≤ B.heap.size
  block : ∀ k, ok k → k < A.heap.size → B.heap[k]? = A.heap[k]?
theorem Kb.refl (ok : Nat → Prop) (A : World) : Kb ok A A := ⟨Nat.le_refl _, fun _ _ _ => rfl⟩
theorem Kb.trans {ok : Nat → Prop} {A B C : World} (h : Kb ok A B) (k : Kb ok B C) : Kb ok A C :=
  ⟨Nat.le_trans h.size k.size, fun i hi hl => (k.block i hi (Nat.lt_of_lt_of_le hl h.size)).trans (h.block i hi hl)⟩
theorem Kb.cell {ok : Nat → Prop} {A B : World} (h : Kb ok A B) {p : Addr} {v : Value} (ho : ok p.block) (hc : A.cell? p = some v) : B.cell? p = some v :=
  (World.cell?_of_block (h.block _ ho (World.block_lt_of_cell? A p hc))).trans hc
theorem Kb.putObj {ok : Nat → Prop} {w : World} (hok : ∀ k, ok k → k < w.heap.size) (W : World) (l : Nat) (o o' : Obj) (hl : w.heap.size ≤ l) (_ : W.heap[l]? = some o) (_ : o.isCells = false) (_ : o.isWalk = false) : Kb ok W (W.putObj l o') :=
  ⟨by simp, fun k hk _ => World.putObj_heap_other (fun e => by have := hok k hk; omega)⟩
theorem Kb.setCell {ok : Nat → Prop} (W : World) (p : Addr) (v : Value) (hp : ¬ ok p.block) : Kb ok W (W.setCell p v) :=
  ⟨by show W.heap.size ≤ (W.heap.modify _ _).size; rw [Array.size_modify]; exact Nat.le_refl _, fun k hk _ => Below.heap_setCell W p v k (fun e => hp (e ▸ hk))⟩
def backs (zs : List Int) : Nat → List (Int × Int)
  | 0 => []
  | k + 1 => backs zs k ++ [((zs.length : Int) - 1 - k, zs[zs.length - 1 - k]?.getD 0)]
theorem backs_length (zs : List Int) (k : Nat) : (backs zs k).length = k := by
  induction k with
  | zero => rfl
  | succ k ih => simp [backs, ih]
set_option maxRecDepth 100000 in
set_option maxHeartbeats 2000000 in
theorem back1_in (n : Nat) (hn : 1 ≤ n) (l Bs : Nat) (ok : Nat → Prop) (ad : Addr) (cap : Nat) (zs : List Int) (hpos : 0 < zs.length) (hmax : zs.length ≤ 9223372036854775807) (hokb : ok ad.block) (hoks : ok Bs)
    (J Jx : List (Int × Int) → World → Prop)
    (hY : ∀ pre x W, J pre W → pre.length < zs.length → YieldAt Fence.wide (n - 1) Try.prog l #[.int .i64 x.1, .int .u8 x.2] W fun e W' =>
      (e = .returned (.bool true) ∧ J (pre ++ [x]) W' ∧ Kb ok W W') ∨ (e = .returned (.bool false) ∧ Jx (pre ++ [x]) W'))
    (W : World) (hBs : W.cell? ⟨Bs, 0, none⟩ = some (.slice (some ad) zs.length cap)) (hc : ∀ j, j < zs.length → W.cell? (ad.add j) = some (.int .u8 (zs[j]?.getD 0))) (h0 : J [] W) :
    CallsIn Fence.wide n Try.prog 159 #[.func (.yield l) #[] #[], .pointer (some ⟨Bs, 0, none⟩)] W fun e W' => (∃ v, e = .returned v) ∧
      ((∃ ys, ys = backs zs zs.length ∧ J ys W') ∨ (∃ pre, (∃ k, k ≤ zs.length ∧ pre = backs zs k) ∧ Jx pre W')) := by
  refine callsIn_of_wp Try.func159 rfl trivial ?_ rfl
  simp only [Try.ntmps159, List.size_toArray, List.length_cons, List.length_nil, Nat.reduceAdd, Nat.reduceSub, Array.replicate_succ, Array.replicate_zero, List.push_toArray, List.append_toArray, List.nil_append, List.cons_append]
  gi_wp2
  gi_loopw [3] (fun i wr => ∃ k : Nat, k ≤ zs.length ∧ i = .int .i64 ((zs.length : Int) - 1 - k) ∧ J (backs zs k) wr ∧ Kb ok W wr)
    (fun i _ => (intOf i + 1).toNat)
  case atStart => exact ⟨0, Nat.zero_le _, by simp, h0, Kb.refl _ _⟩
  case round =>
    obtain ⟨k, hk, rfl, hJs, hnx⟩ := hrel
    by_cases hlt : k < zs.length
    · have hBs' := hnx.cell (p := ⟨Bs, 0, none⟩) hoks hBs
      have hcx := hnx.cell (p := ad.add (zs.length - 1 - k)) (by rw [add_block]; exact hokb) (hc (zs.length - 1 - k) (by omega))
      obtain ⟨fn, tmps, assign, body, hy, hR⟩ := hY _ ((zs.length : Int) - 1 - k, zs[zs.length - 1 - k]?.getD 0) wr hJs (by rw [backs_length]; exact hlt)
      dsimp only at hy
      gi_wp2
      refine hR.mono ?_
      rintro e W3 (⟨rfl, hJ3, hk3⟩ | ⟨rfl, hJx3⟩)
      · gi_wp2
        go_roundw
        case rel => exact ⟨k + 1, by omega, by simp; omega, hJ3, hnx.trans hk3⟩
        case measure => simp [intOf]; omega
      · gi_wp2
        refine bodyPost_ret (results_none rfl _ _ _) rfl ?_
        exact ⟨⟨_, rfl⟩, .inr ⟨_, ⟨k + 1, by omega, rfl⟩, hJx3⟩⟩
    · obtain rfl : k = zs.length := by omega
      gi_wp2
      go_end0
      exact ⟨⟨_, rfl⟩, .inl ⟨_, rfl, hJs⟩⟩
set_option maxRecDepth 100000 in
set_option maxHeartbeats 1000000 in
theorem back1_nil_in (n : Nat) (l Bs : Nat) (A : Option Addr) (cap : Nat) (J : List (Int × Int) → World → Prop) (W : World) (hBs : W.cell? ⟨Bs, 0, none⟩ = some (.slice A 0 cap)) (h0 : J [] W) :
    CallsIn Fence.wide n Try.prog 159 #[.func (.yield l) #[] #[], .pointer (some ⟨Bs, 0, none⟩)] W fun e W' => (∃ v, e = .returned v) ∧ J [] W' := by
  refine callsIn_of_wp Try.func159 rfl trivial ?_ rfl
  simp only [Try.ntmps159, List.size_toArray, List.length_cons, List.length_nil, Nat.reduceAdd, Nat.reduceSub, Array.replicate_succ, Array.replicate_zero, List.push_toArray, List.append_toArray, List.nil_append, List.cons_append]
  gi_wp2
  gi_loopw [3] (fun i wr => i = .int .i64 (-1) ∧ J [] wr) (fun _ _ => 0)
  case atStart => exact ⟨rfl, h0⟩
  case round =>
    obtain ⟨rfl, hJs⟩ := hrel
    gi_wp2
    go_end0
    exact ⟨⟨_, rfl⟩, hJs⟩
set_option maxHeartbeats 1000000 in
theorem back_in (n : Nat) (a : Option Addr) (len cap : Nat) (w : World) :
    CallsIn Fence.wide n Try.prog 154 #[.slice a len cap] w fun e w' => e = .returned (.func (.func 159) #[] #[.pointer (some ⟨w.heap.size, 0, none⟩)]) ∧ w' = w.alloc (.cells #[.slice a len cap] 22) := by
  refine callsIn_of_wp Try.func154 rfl trivial ?_ rfl
  simp only [Try.ntmps154, List.size_toArray, List.length_cons, List.length_nil, Nat.reduceAdd, Nat.reduceSub, Array.replicate_succ, Array.replicate_zero, List.push_toArray, List.append_toArray, List.nil_append, List.cons_append]
  gi_wp2
  go_ret
  exact ⟨rfl, rfl⟩
theorem back_stops (n : Nat) (hn : 1 ≤ n) (Bs : Nat) (ok : Nat → Prop) (A : Option Addr) (len cap : Nat) (zs : List Int) (hz : zs.length = len) (hmax : zs.length ≤ 9223372036854775807) (w : World) (hBs : Bs < w.heap.size) (hoks : ok Bs) 
    (hc : w.cell? ⟨Bs, 0, none⟩ = some (.slice A len cap)) (hI : 0 < zs.length → ∃ ad, A = some ad ∧ ok ad.block ∧ ∀ j, j < zs.length → w.cell? (ad.add j) = some (.int .u8 (zs[j]?.getD 0))) :
    SeqStopsK Fence.wide n Try.prog 159 #[.pointer (some ⟨Bs, 0, none⟩)] (fun x : Int × Int => #[Value.int .i64 x.1, Value.int .u8 x.2]) (Kb ok) (fun ys => ys = backs zs zs.length) (fun pre => ∃ k, k ≤ zs.length ∧ pre = backs zs k) zs.length w := fun l J Jx W hW _ _ hY h0 => by
  subst hz
  have hc' := (hW.cell (p := ⟨Bs, 0, none⟩) hBs).trans hc
  rcases Nat.eq_zero_or_pos zs.length with hz | hp
  · rw [hz] at hc'
    refine (back1_nil_in n l Bs A cap J W hc' h0).mono fun e W' ⟨he, hj⟩ => ⟨he, .inl ⟨[], ?_, hj⟩⟩
    rw [hz]; rfl
  · obtain ⟨ad, rfl, hob, hcs⟩ := hI hp
    refine (back1_in n hn l Bs ok ad cap zs hp hmax hob hoks J Jx hY W hc' (fun j hj => (hW.cell (p := ad.add j) ?_).trans (hcs j hj)) h0)
    exact World.block_lt_of_cell? w _ (hcs j hj)
def getStep (n c : Int) : Int := Go.bits .or .u64 (IntKind.u64.wrap (n * 256)) (IntKind.u64.wrap c)
def getAll (pre : List (Int × Int)) : Int := pre.foldl (fun n x => getStep n x.2) 0
theorem getAll_snoc (pre : List (Int × Int)) (x : Int × Int) : getAll (pre ++ [x]) = getStep (getAll pre) x.2 := by simp [getAll]
set_option maxRecDepth 100000 in
set_option maxHeartbeats 2000000 in
theorem get_small (A : Option Addr) (len cap : Nat) (zs : List Int) (w : World) (hzm : zs.length = len) (h8 : len ≤ 8) (hcap : len ≤ cap)
    (hI : 0 < zs.length → ∃ ad, A = some ad ∧ ∀ j, j < zs.length → w.cell? (ad.add j) = some (.int .u8 (zs[j]?.getD 0))) :
    CallsIn Fence.wide 3 Try.prog 129 #[.slice A len cap] w fun e W' => e = .returned (.int .u64 (getAll (backs zs zs.length))) ∧ Below w.heap.size w W' := by
  refine callsIn_of_wp_marks Try.func129 rfl trivial ?_ rfl
  simp only [Try.ntmps129, List.size_toArray, List.length_cons, List.length_nil, Nat.reduceAdd, Nat.reduceSub, Array.replicate_succ, Array.replicate_zero, List.push_toArray, List.append_toArray, List.nil_append, List.cons_append]
  have hz2 := Lib.hid hzm
  clear hzm
  gi_wp2_with (refine ⟨trivial, ?_⟩; gi_at_call 154; refine (back_in _ _ _ _ _).mono ?_; rintro e w' ⟨rfl, rfl⟩)
  have bS := Boxed.new w 38 (.int .u64 0)
  have bN := Boxed.new (w.alloc (.cells #[.int .u64 0] 38)) 22 (.slice A len cap)
  rw [World.size_alloc] at bN
  have hB0 : Below w.heap.size w ((w.alloc (.cells #[.int .u64 0] 38)).alloc (.cells #[.slice A len cap] 22)) := ((Below.refl _ w).alloc (Nat.le_refl _) _).alloc (by simp) _
  refine wpIn_rangeFunc_ownG rfl (by omega) (gf := 159) (lb := #[.pointer (some ⟨w.heap.size + 1, 0, none⟩)]) rfl trivial (enters_of Try.func159 (by kernel_rfl) rfl)
    (back_stops (3 - 1) (by omega) (w.heap.size + 1) (fun k => k < w.heap.size ∨ k = w.heap.size + 1) A _ cap zs hz2.out (by rw [hz2.out]; omega) _ (by simp) (.inr rfl) bN.cell (fun hp => ?hI)) Kb.trans (Kb.putObj (fun k hk => by simp; omega)) (Below.refl _ _) (fun _ => rfl)
    (fun pre W => (W.cell? ⟨w.heap.size, 0, none⟩ = some (.int .u64 (getAll pre)) ∧ W.frozen? ⟨w.heap.size, 0, none⟩ = false) ∧ Below w.heap.size w W)
    (fun _ _ _ => False)
    (OwnFrom.and (Own.from (fun s A B row hs hg hr => ⟨cell_kept hs.1 hg hr, (frozen_kept hs.1 hg hr).trans hs.2⟩) _) (ownFrom_below (Nat.le_refl _) (by simp; omega)))
    (fun _ _ _ _ _ hs _ _ => hs)
    ⟨⟨(bS.alloc _).cell, (bS.alloc _).frozen⟩, hB0⟩
    (fun x => { tmps := #[.slice A len cap, undef, .int .u64 0, .pointer (some ⟨w.heap.size, 0, none⟩), undef, .int .u8 x.2, .slice A len cap, .slice A len cap, .int .i64 len, .int .i64 (len : Nat), .slice A len cap, .func (.func 159) #[] #[.pointer (some ⟨w.heap.size + 1, 0, none⟩)], .int .i64 x.1, .int .u8 x.2, undef, undef, undef, undef, undef, undef], defers := [] }) ?assign ?body ?done ?stop
  case hI =>
    obtain ⟨ad, rfl, hcs⟩ := hI hp
    refine ⟨ad, rfl, .inl (World.block_lt_of_cell? w _ (hcs 0 hp)), fun j hj => (hB0.cell (World.block_lt_of_cell? w _ (hcs j hj))).trans (hcs j hj)⟩
  case assign =>
    intro l x W K hK
    gi_wp2
    exact hK
  case body =>
    rintro l pre x W ⟨⟨hc, hf⟩, hB⟩ _
    gi_wp2
    refine ⟨(KeepsOthers.setCell _ _ _).from _, Kb.setCell _ _ _ (by simp), ⟨?_, by rw [World.frozen?_setCell]; exact hf⟩, hB.setCell (p := ⟨w.heap.size, 0, none⟩) (Nat.le_refl _) _⟩
    rw [getAll_snoc]
    exact World.cell?_setCell_same' _ _ _ (by rw [hc]; rfl)
  case done =>
    rintro D ys W hD rfl ⟨⟨hc, _⟩, hB⟩ hK
    gi_wp2
    refine ⟨by simp, .inl ⟨_, _, rfl, run_takeDeferred hK, ?_⟩⟩
    exact ⟨_, results_tmp rfl _ _ _, rfl, hB.trans (belowK_b (w := w) (Nat.le_refl _) W D _ _ (by simp at hD; omega) hK rfl rfl)⟩
  case stop =>
    rintro D c pre W _ _ h _
    exact h.elim
set_option maxRecDepth 100000 in
set_option maxHeartbeats 2000000 in
theorem get_great (A : Option Addr) (len cap : Nat) (zs : List Int) (w : World) (hzm : zs.length = 8) (h8 : ¬ len ≤ 8) (hcap : len ≤ cap)
    (hI : 0 < zs.length → ∃ ad, A = some ad ∧ ∀ j, j < zs.length → w.cell? (ad.add j) = some (.int .u8 (zs[j]?.getD 0))) :
    CallsIn Fence.wide 3 Try.prog 129 #[.slice A len cap] w fun e W' => e = .returned (.int .u64 (getAll (backs zs zs.length))) ∧ Below w.heap.size w W' := by
  refine callsIn_of_wp_marks Try.func129 rfl trivial ?_ rfl
  simp only [Try.ntmps129, List.size_toArray, List.length_cons, List.length_nil, Nat.reduceAdd, Nat.reduceSub, Array.replicate_succ, Array.replicate_zero, List.push_toArray, List.append_toArray, List.nil_append, List.cons_append]
  have hz2 := Lib.hid hzm
  clear hzm
  gi_wp2_with (refine ⟨trivial, ?_⟩; gi_at_call 154; refine (back_in _ _ _ _ _).mono ?_; rintro e w' ⟨rfl, rfl⟩)
  have bS := Boxed.new w 38 (.int .u64 0)
  have bN := Boxed.new (w.alloc (.cells #[.int .u64 0] 38)) 22 (.slice A 8 cap)
  rw [World.size_alloc] at bN
  have hB0 : Below w.heap.size w ((w.alloc (.cells #[.int .u64 0] 38)).alloc (.cells #[.slice A 8 cap] 22)) := ((Below.refl _ w).alloc (Nat.le_refl _) _).alloc (by simp) _
  refine wpIn_rangeFunc_ownG rfl (by omega) (gf := 159) (lb := #[.pointer (some ⟨w.heap.size + 1, 0, none⟩)]) rfl trivial (enters_of Try.func159 (by kernel_rfl) rfl)
    (back_stops (3 - 1) (by omega) (w.heap.size + 1) (fun k => k < w.heap.size ∨ k = w.heap.size + 1) A _ cap zs hz2.out (by rw [hz2.out]; omega) _ (by simp) (.inr rfl) bN.cell (fun hp => ?hI)) Kb.trans (Kb.putObj (fun k hk => by simp; omega)) (Below.refl _ _) (fun _ => rfl)
    (fun pre W => (W.cell? ⟨w.heap.size, 0, none⟩ = some (.int .u64 (getAll pre)) ∧ W.frozen? ⟨w.heap.size, 0, none⟩ = false) ∧ Below w.heap.size w W)
    (fun _ _ _ => False)
    (OwnFrom.and (Own.from (fun s A B row hs hg hr => ⟨cell_kept hs.1 hg hr, (frozen_kept hs.1 hg hr).trans hs.2⟩) _) (ownFrom_below (Nat.le_refl _) (by simp; omega)))
    (fun _ _ _ _ _ hs _ _ => hs)
    ⟨⟨(bS.alloc _).cell, (bS.alloc _).frozen⟩, hB0⟩
    (fun x => { tmps := #[.slice A len cap, undef, .int .u64 0, .pointer (some ⟨w.heap.size, 0, none⟩), undef, .int .u8 x.2, .slice A len cap, .slice A len cap, .int .i64 len, .int .i64 8, .slice A 8 cap, .func (.func 159) #[] #[.pointer (some ⟨w.heap.size + 1, 0, none⟩)], .int .i64 x.1, .int .u8 x.2, undef, undef, undef, undef, undef, undef], defers := [] }) ?assign ?body ?done ?stop
  case hI =>
    obtain ⟨ad, rfl, hcs⟩ := hI hp
    refine ⟨ad, rfl, .inl (World.block_lt_of_cell? w _ (hcs 0 hp)), fun j hj => (hB0.cell (World.block_lt_of_cell? w _ (hcs j hj))).trans (hcs j hj)⟩
  case assign =>
    intro l x W K hK
    gi_wp2
    exact hK
  case body =>
    rintro l pre x W ⟨⟨hc, hf⟩, hB⟩ _
    gi_wp2
    refine ⟨(KeepsOthers.setCell _ _ _).from _, Kb.setCell _ _ _ (by simp), ⟨?_, by rw [World.frozen?_setCell]; exact hf⟩, hB.setCell (p := ⟨w.heap.size, 0, none⟩) (Nat.le_refl _) _⟩
    rw [getAll_snoc]
    exact World.cell?_setCell_same' _ _ _ (by rw [hc]; rfl)
  case done =>
    rintro D ys W hD rfl ⟨⟨hc, _⟩, hB⟩ hK
    gi_wp2
    refine ⟨by simp, .inl ⟨_, _, rfl, run_takeDeferred hK, ?_⟩⟩
    exact ⟨_, results_tmp rfl _ _ _, rfl, hB.trans (belowK_b (w := w) (Nat.le_refl _) W D _ _ (by simp at hD; omega) hK rfl rfl)⟩
  case stop =>
    rintro D c pre W _ _ h _
    exact h.elim
def word_Get.f (l0 : List Int) : Option (Int) := some (getAll (backs (l0.take 8) (l0.take 8).length))
theorem word_Get.calls (A0 : Option Addr) (c0 : Nat) (l0 : List Int) (r : Int) (w : World) (hr0 : Kd.C (Kd.int .u8) w A0 l0.length l0) (hc0 : l0.length ≤ c0) (h : word_Get.f l0 = some r) :
    Calls Try.prog 129 #[.slice A0 l0.length c0] w fun e w' => e = .returned (.int .u64 r) ∧ Below w.heap.size w w' := by
  obtain rfl := Option.some.inj h
  have hr : ReadsInt w .u8 A0 l0.length l0 := Kd.reads_of_C (d := (0 : Int)) hr0
  have hI : 0 < (l0.take 8).length → ∃ ad, A0 = some ad ∧ ∀ j, j < (l0.take 8).length → w.cell? (ad.add j) = some (.int .u8 ((l0.take 8)[j]?.getD 0)) := fun hp => by
    obtain ⟨ad, e, hc⟩ := hr.2.2 (by simp at hp; omega)
    refine ⟨ad, e, fun j hj => ?_⟩
    have hj2 : j < 8 ∧ j < l0.length := by simp at hj; omega
    rw [hc j hj2.2, List.getElem?_take_of_lt hj2.1, List.getD_eq_getElem?_getD]
  refine (callsIn_wide (n := 3)).1 ?_
  by_cases h8 : l0.length ≤ 8
  · exact get_small A0 l0.length c0 (l0.take 8) w (by simp; omega) h8 hc0 hI
  · exact get_great A0 l0.length c0 (l0.take 8) w (by simp; omega) h8 hc0 hI
end Go.Proofs.Ytliohoalackhiaa.T
