/- bits.each hands out the places of the bits that are set, rising; bits.First is the least of n that is not among them: for every slice of bytes, in whatever memory. -/
import Derived.RangeFuncNested
import Derived.RangeFuncBound
import Derived.RangeFuncCalls
import Derived.RangeFuncLeaves
import Derived.Shelf.Abstract
import Derived.Shelf.RegionOpen
import Derived.WalkKit
import Derived.OwnWalkIn
import Derived.TacticsInMore
import Derived.LoopNIn
import Derived.LoopIn
import Derived.Lib.Hide
import Derived.Lib.BitFns
import Derived.Test.YtbaokbfmancjlaaEx0
namespace Go.Proofs.Ytbaokbfmancjlaa.E
open Go.RowKit Go.Shelf Go.Proofs.YtbaokbfmancjlaaW.PrintWords Go.Proofs.YtbaokbfmancjlaaW.PrintMore
attribute [local go_sem] max2_int min2_int max_two min_two
set_option linter.unusedVariables false
set_option linter.unusedSimpArgs false
attribute [local go_sem] Oper.semAt_some

/-- the blocks of which ok speaks lie as they lay -/
structure Kb (ok : Nat → Prop) (A B : World) : Prop where
  size : A.heap.size ≤ B.heap.size
  block : ∀ k, ok k → k < A.heap.size → B.heap[k]? = A.heap[k]?
theorem Kb.refl (ok : Nat → Prop) (A : World) : Kb ok A A := ⟨Nat.le_refl _, fun _ _ _ => rfl⟩
theorem Kb.trans {ok : Nat → Prop} {A B C : World} (h : Kb ok A B) (k : Kb ok B C) : Kb ok A C :=
  ⟨Nat.le_trans h.size k.size, fun i hi hl => (k.block i hi (Nat.lt_of_lt_of_le hl h.size)).trans (h.block i hi hl)⟩
theorem Kb.cell {ok : Nat → Prop} {A B : World} (h : Kb ok A B) {p : Addr} {v : Value} (ho : ok p.block) (hc : A.cell? p = some v) : B.cell? p = some v :=
  (World.cell?_of_block (h.block _ ho (World.block_lt_of_cell? A p hc))).trans hc
theorem Kb.putObj {ok : Nat → Prop} {w : World} (hok : ∀ k, ok k → k < w.heap.size) (W : World) (l : Nat) (o o' : Obj) (hl : w.heap.size ≤ l) (_ : W.heap[l]? = some o) (_ : o.isCells = false) (_ : o.isWalk = false) : Kb ok W (W.putObj l o') :=
  ⟨by simp, fun k hk _ => World.putObj_heap_other (fun e => by have := hok k hk; omega)⟩
theorem Kb.setCell {ok : Nat → Prop} (W : World) (p : Addr) (v : Value) (hp : ¬ ok p.block) : Kb ok W (W.setCell p v) :=
  ⟨by show W.heap.size ≤ (W.heap.modify _ _).size; rw [Array.size_modify]; exact Nat.le_refl _, fun k hk _ => Below.heap_setCell W p v k (fun e => hp (e ▸ hk))⟩

set_option maxRecDepth 100000 in
theorem trail_in (n : Nat) (x : Int) (w : World) (h0 : 0 ≤ x) (h1 : x ≤ 255) :
    CallsIn Fence.wide n Try.prog 78 #[.int .u8 x] w fun e w' => e = .returned (.int .i64 (Lib.trailingZeros8 x.toNat)) ∧ w' = w := by
  obtain ⟨tv, htv⟩ : ∃ tv, (Lib.trailingZeros8 x.toNat : Int) = tv := ⟨_, rfl⟩
  rw [htv]
  have he := Lib.hid (show wrap64 (Lib.ntz8 x) = tv by
    rw [← htv, ← Lib.ntz8_int x h0 h1]; generalize Lib.ntz8 x = z; simp only [wrap64] <;> omega)
  clear htv
  refine callsIn_of_wp Try.func78 rfl trivial ?_ rfl
  simp only [Try.ntmps78, List.size_toArray, List.length_cons, List.length_nil, Nat.reduceAdd, Nat.reduceSub, Array.replicate_succ, Array.replicate_zero, List.push_toArray, List.append_toArray, List.nil_append, List.cons_append]
  gi_wp2
  go_ret
  exact ⟨congrArg (fun v => Ending.returned (Value.int IntKind.i64 v)) he.out, rfl⟩

/-- the places of the bits of a byte that are set, rising -/
def lowB (c : Int) : List Int := ((List.range 8).filter (fun i : Nat => c.toNat.testBit i)).map (fun i : Nat => (i : Int))
def posAt (k c : Int) : List Int := (lowB c).map (fun i => k * 8 + i)
/-- the places of the bits of bytes that are set, rising; the first byte is the k-th -/
def posns (k : Int) : List Int → List Int
  | [] => []
  | c :: t => posAt k c ++ posns (k + 1) t
theorem lowB_fin : ∀ c : Fin 256, c.val ≠ 0 → lowB (c.val : Int) = (Lib.trailingZeros8 c.val : Int) :: lowB (Go.bits .and .u8 (c.val : Int) ((c.val : Int) - 1)) := by decide +kernel
theorem lowB_step (c : Int) (h0 : 0 ≤ c) (h1 : c ≤ 255) (h : ¬ c = 0) : lowB c = (Lib.trailingZeros8 c.toNat : Int) :: lowB (Go.bits .and .u8 c (c - 1)) := by
  have := lowB_fin ⟨c.toNat, by omega⟩ (by show c.toNat ≠ 0; omega)
  simp only [Int.toNat_of_nonneg h0] at this
  exact this
theorem low_fin : ∀ c : Fin 256, c.val ≠ 0 → 0 ≤ Go.bits .and .u8 (c.val : Int) ((c.val : Int) - 1) ∧ Go.bits .and .u8 (c.val : Int) ((c.val : Int) - 1) < (c.val : Int) := by decide +kernel
theorem low_less (c : Int) (h0 : 0 ≤ c) (h1 : c ≤ 255) (h : ¬ c = 0) : 0 ≤ Go.bits .and .u8 c (c - 1) ∧ Go.bits .and .u8 c (c - 1) < c := by
  have := low_fin ⟨c.toNat, by omega⟩ (by show c.toNat ≠ 0; omega)
  simp only [Int.toNat_of_nonneg h0] at this
  exact this
theorem tz_le : ∀ c : Fin 256, Lib.trailingZeros8 c.val ≤ 8 := by decide +kernel
theorem drop_getD {l : List Int} {k : Nat} (h : k < l.length) : l.drop k = l.getD k 0 :: l.drop (k + 1) := by
  rw [List.getD_eq_getElem?_getD, List.getElem?_eq_getElem h, Option.getD_some]; exact List.drop_eq_getElem_cons h

set_option maxRecDepth 100000 in
set_option maxHeartbeats 4000000 in
theorem each1_in (n : Nat) (hn : 1 ≤ n) (l Bs : Nat) (ok : Nat → Prop) (A : Option Addr) (cap : Nat) (zs : List Int) (hz8 : ∀ j, j < zs.length → 0 ≤ zs.getD j 0 ∧ zs.getD j 0 ≤ 255) (hmax : zs.length < 140737488355328) (hokb : 0 < zs.length → ∀ ad, A = some ad → ok ad.block) (hoks : ok Bs)
    (J Jx : List Int → World → Prop)
    (hY : ∀ pre x W, J pre W → pre.length < (posns 0 zs).length → x ∈ posns 0 zs → YieldAt Fence.wide (n - 1) Try.prog l #[.int .i64 x] W fun e W' =>
      (e = .returned (.bool true) ∧ J (pre ++ [x]) W' ∧ Kb ok W W') ∨ (e = .returned (.bool false) ∧ Jx (pre ++ [x]) W'))
    (W : World) (hBs : W.cell? ⟨Bs, 0, none⟩ = some (.slice A zs.length cap)) (hc : 0 < zs.length → ∃ ad, A = some ad ∧ ∀ j, j < zs.length → W.cell? (ad.add j) = some (.int .u8 (zs.getD j 0))) (h0 : J [] W) :
    CallsIn Fence.wide n Try.prog 77 #[.func (.yield l) #[] #[], .pointer (some ⟨Bs, 0, none⟩)] W fun e W' => (∃ v, e = .returned v) ∧
      ((∃ ys, ys = posns 0 zs ∧ J ys W') ∨ (∃ pre, (∃ rest, pre ++ rest = posns 0 zs) ∧ Jx pre W')) := by
  refine callsIn_of_wp Try.func77 rfl trivial ?_ rfl
  simp only [Try.ntmps77, List.size_toArray, List.length_cons, List.length_nil, Nat.reduceAdd, Nat.reduceSub, Array.replicate_succ, Array.replicate_zero, List.push_toArray, List.append_toArray, List.nil_append, List.cons_append]
  gi_wp2
  gi_loopw [7] (fun i wr => ∃ (k : Nat) (pre : List Int), k ≤ zs.length ∧ i = .int .i64 k ∧ J pre wr ∧ Kb ok W wr ∧ pre ++ posns k (zs.drop k) = posns 0 zs)
    (fun i _ => zs.length - (intOf i).toNat)
  case atStart => exact ⟨0, [], Nat.zero_le _, rfl, h0, Kb.refl _ _, rfl⟩
  case round =>
    obtain ⟨k, pre, hk, rfl, hJ, hnx, hpre⟩ := hrel
    by_cases hlt : k < zs.length
    · obtain ⟨ad, rfl, hcs⟩ := hc (by omega)
      have hcx := hnx.cell (p := ad.add k) (by rw [add_block]; exact hokb (by omega) _ rfl) (hcs k hlt)
      obtain ⟨c0, c1⟩ := hz8 k hlt
      rw [drop_getD hlt] at hpre
      generalize hcv : zs.getD k 0 = cv at hcx c0 c1 hpre
      change pre ++ (posAt k cv ++ posns (k + 1) (zs.drop (k + 1))) = posns 0 zs at hpre
      generalize hrest : posns ((k : Int) + 1) (zs.drop (k + 1)) = rest at hpre
      clear hcs hc hcv
      have hz := Lib.hid hpre
      clear hpre
      gi_wp2
      gi_loopw [4] (fun vc wr2 => ∃ (c : Int) (pre : List Int), vc = .int .u8 c ∧ 0 ≤ c ∧ c ≤ 255 ∧ J pre wr2 ∧ Kb ok W wr2 ∧ pre ++ (posAt k c ++ rest) = posns 0 zs)
        (fun vc _ => (intOf vc).toNat)
      case atStart => exact ⟨cv, pre, rfl, c0, c1, hJ, hnx, hz.out⟩
      case round =>
        obtain ⟨c, pre2, rfl, d0, d1, hJ2, hnx2, hp2⟩ := hrel
        by_cases hcz : c = 0
        · subst hcz
          gi_wp2
          go_roundw
          case rel => exact ⟨k + 1, pre2, by omega, by go_num, hJ2, hnx2, by rw [← hp2]; show pre2 ++ posns ((k + 1 : Nat) : Int) _ = _; rw [show ((k + 1 : Nat) : Int) = (k : Int) + 1 by omega, hrest]; rfl⟩
          case measure => simp [intOf]; omega
        · have hs := lowB_step c d0 d1 hcz
          obtain ⟨e0, e1⟩ := low_less c d0 d1 hcz
          have htz : Lib.trailingZeros8 c.toNat ≤ 8 := tz_le ⟨c.toNat, by omega⟩
          have hpa : posAt k c = ((k : Int) * 8 + (Lib.trailingZeros8 c.toNat : Int)) :: posAt k (Go.bits .and .u8 c (c - 1)) := by
            unfold posAt; rw [hs]; rfl
          rw [hpa] at hp2
          generalize hcn : Go.bits .and .u8 c (c - 1) = cn at e0 e1 hp2
          clear hs hpa
          have hlen : pre2.length < (posns 0 zs).length := by rw [← hp2]; simp
          have hmem : ((k : Int) * 8 + (Lib.trailingZeros8 c.toNat : Int)) ∈ posns 0 zs := by rw [← hp2]; simp
          obtain ⟨fn, tmps, assign, body, hy, hR⟩ := hY pre2 ((k : Int) * 8 + (Lib.trailingZeros8 c.toNat : Int)) wr hJ2 hlen hmem
          have HC := Lib.hid hcn
          have HP := Lib.hid hp2
          clear hcn hp2
          have HT := fun w => trail_in (n - 1) c w d0 d1
          generalize Lib.trailingZeros8 c.toNat = tz at hR htz HP HT hy hmem
          gi_wp2_with (refine ⟨trivial, ?_⟩; gi_at_call 78; refine (HT _).mono ?_; rintro e w' ⟨rfl, rfl⟩)
          refine hR.mono ?_
          rintro e W3 (⟨rfl, hJ3, hk3⟩ | ⟨rfl, hJx3⟩)
          · gi_wp2
            go_roundw
            case rel => exact ⟨cn, _, by first | rfl | rw [HC.out], e0, by omega, hJ3, hnx2.trans hk3, by rw [← HP.out]; simp⟩
            case measure => simp [intOf]; have := HC.out; omega
          · gi_wp2
            refine bodyPost_ret (results_none rfl _ _ _) rfl ?_
            exact ⟨⟨_, rfl⟩, .inr ⟨_, ⟨posAt k cn ++ rest, by rw [← HP.out]; simp⟩, hJx3⟩⟩
    · obtain rfl : k = zs.length := by omega
      gi_wp2
      go_end0
      exact ⟨⟨_, rfl⟩, .inl ⟨_, by rw [← hpre]; simp [posns], hJ⟩⟩

set_option maxHeartbeats 1000000 in
theorem each_in (n : Nat) (a : Option Addr) (len cap : Nat) (w : World) :
    CallsIn Fence.wide n Try.prog 69 #[.slice a len cap] w fun e w' => e = .returned (.func (.func 77) #[] #[.pointer (some ⟨w.heap.size, 0, none⟩)]) ∧ w' = w.alloc (.cells #[.slice a len cap] 37) := by
  refine callsIn_of_wp Try.func69 rfl trivial ?_ rfl
  simp only [Try.ntmps69, List.size_toArray, List.length_cons, List.length_nil, Nat.reduceAdd, Nat.reduceSub, Array.replicate_succ, Array.replicate_zero, List.push_toArray, List.append_toArray, List.nil_append, List.cons_append]
  gi_wp2
  go_ret
  exact ⟨rfl, rfl⟩

theorem each_stops (n : Nat) (hn : 1 ≤ n) (Bs : Nat) (ok : Nat → Prop) (A : Option Addr) (cap : Nat) (zs : List Int) (hz8 : ∀ j, j < zs.length → 0 ≤ zs.getD j 0 ∧ zs.getD j 0 ≤ 255) (hmax : zs.length < 140737488355328) (w : World) (hBs : Bs < w.heap.size) (hoks : ok Bs)
    (hc : w.cell? ⟨Bs, 0, none⟩ = some (.slice A zs.length cap)) (hokb : 0 < zs.length → ∀ ad, A = some ad → ok ad.block) (hI : 0 < zs.length → ∃ ad, A = some ad ∧ ∀ j, j < zs.length → w.cell? (ad.add j) = some (.int .u8 (zs.getD j 0))) :
    SeqStopsK Fence.wide n Try.prog 77 #[.pointer (some ⟨Bs, 0, none⟩)] (fun x : Int => #[Value.int .i64 x]) (Kb ok) (fun ys => ys = posns 0 zs) (fun pre => ∃ rest, pre ++ rest = posns 0 zs) (posns 0 zs).length w := fun l J Jx W hW _ _ hY h0 => by
  have hc' := (hW.cell (p := ⟨Bs, 0, none⟩) hBs).trans hc
  refine each1_in n hn l Bs ok A cap zs hz8 hmax hokb hoks J Jx (fun pre x W h1 h2 _ => hY pre x W h1 h2) W hc' (fun hp => ?_) h0
  obtain ⟨ad, rfl, hcs⟩ := hI hp
  exact ⟨ad, rfl, fun j hj => (hW.cell (p := ad.add j) (World.block_lt_of_cell? w _ (hcs j hj))).trans (hcs j hj)⟩

theorem lowB_length (c : Int) : (lowB c).length ≤ 8 := by
  unfold lowB; rw [List.length_map]; exact Nat.le_trans (List.length_filter_le _ _) (by simp)
theorem posns_length (k : Int) (l : List Int) : (posns k l).length ≤ 8 * l.length := by
  induction l generalizing k with
  | nil => simp [posns]
  | cons c t ih => have := ih (k + 1); have := lowB_length c; simp only [posns, posAt, List.length_append, List.length_map, List.length_cons]; omega

/-- the number of the first places that are none other than 0, 1, 2, .. -/
def firstOf (k : Int) : List Int → Int
  | [] => k
  | i :: t => if i > k then k else firstOf (k + 1) t

/-- each of them is a byte -/
def bytesB (l : List Int) : Bool := l.all fun c => 0 ≤ c && c ≤ 255
theorem bytesB_at {l : List Int} (h : bytesB l = true) (j : Nat) (hj : j < l.length) : 0 ≤ l.getD j 0 ∧ l.getD j 0 ≤ 255 := by
  have := List.all_eq_true.1 h (l.getD j 0) (by rw [List.getD_eq_getElem?_getD, List.getElem?_eq_getElem hj]; exact List.getElem_mem hj)
  simpa using this
/-- What bits.First computes: the least of n that is not set. -/
def bits_First.f (l0 : List Int) (a1 : Int) : Option Int := if l0.length < 140737488355328 ∧ bytesB l0 = true then some (mn (firstOf 0 (posns 0 l0)) (mx 0 (mn a1 65536))) else none

set_option maxRecDepth 100000 in
set_option maxHeartbeats 4000000 in
theorem first_in (A : Option Addr) (cap : Nat) (zs : List Int) (nn : Int) (w : World) (hz8 : ∀ j, j < zs.length → 0 ≤ zs.getD j 0 ∧ zs.getD j 0 ≤ 255) (hmax : zs.length < 140737488355328) (hcap : zs.length ≤ cap)
    (hok : 0 < zs.length → ∀ ad, A = some ad → ad.block < w.heap.size) (hI : 0 < zs.length → ∃ ad, A = some ad ∧ ∀ j, j < zs.length → w.cell? (ad.add j) = some (.int .u8 (zs.getD j 0))) :
    CallsIn Fence.wide 3 Try.prog 51 #[.slice A zs.length cap, .int .i64 nn] w fun e W' => e = .returned (.int .i64 (mn (firstOf 0 (posns 0 zs)) (mx 0 (mn nn 65536)))) ∧ Below w.heap.size w W' := by
  refine callsIn_of_wp_marks Try.func51 rfl trivial ?_ rfl
  simp only [Try.ntmps51, List.size_toArray, List.length_cons, List.length_nil, Nat.reduceAdd, Nat.reduceSub, Array.replicate_succ, Array.replicate_zero, List.push_toArray, List.append_toArray, List.nil_append, List.cons_append]
  obtain ⟨m1, hm1⟩ : ∃ m1, mn nn 65536 = m1 := ⟨_, rfl⟩
  have hm1_ : (if 65536 < nn then 65536 else nn) = m1 := hm1
  obtain ⟨m2, hm2⟩ : ∃ m2, mx 0 m1 = m2 := ⟨_, rfl⟩
  have hm2_ : (if 0 < m1 then m1 else 0) = m2 := hm2
  rw [hm1, hm2]
  obtain ⟨fo, hfo0⟩ : ∃ fo, firstOf 0 (posns 0 zs) = fo := ⟨_, rfl⟩
  rw [hfo0]
  obtain ⟨m3, hm3⟩ : ∃ m3, mn fo m2 = m3 := ⟨_, rfl⟩
  have hm3_ : (if m2 < fo then m2 else fo) = m3 := hm3
  rw [hm3]
  clear hm3
  have hplen := posns_length 0 zs
  clear hm1 hm2
  gi_wp2_with (refine ⟨trivial, ?_⟩; gi_at_call 69; refine (each_in _ _ _ _ _).mono ?_; rintro e w' ⟨rfl, rfl⟩)
  have bS := Boxed.new w 3 (.int .i64 0)
  have bN := Boxed.new (w.alloc (.cells #[.int .i64 0] 3)) 37 (.slice A zs.length cap)
  rw [World.size_alloc] at bN
  have hB0 : Below w.heap.size w ((w.alloc (.cells #[.int .i64 0] 3)).alloc (.cells #[.slice A zs.length cap] 37)) := ((Below.refl _ w).alloc (Nat.le_refl _) _).alloc (by simp) _
  refine wpIn_rangeFunc_ownG rfl (by omega) (gf := 77) (lb := #[.pointer (some ⟨w.heap.size + 1, 0, none⟩)]) rfl trivial (enters_of Try.func77 (by kernel_rfl) rfl)
    (each_stops (3 - 1) (by omega) (w.heap.size + 1) (fun k => k < w.heap.size ∨ k = w.heap.size + 1) A cap zs hz8 hmax _ (by simp) (.inr rfl) bN.cell (fun hp ad h => .inl (hok hp ad h)) (fun hp => ?hI)) Kb.trans (Kb.putObj (fun k hk => by simp; omega)) (Below.refl _ _) (fun _ => rfl)
    (fun pre W => ((W.cell? ⟨w.heap.size, 0, none⟩ = some (.int .i64 (pre.length : Int)) ∧ W.frozen? ⟨w.heap.size, 0, none⟩ = false) ∧ ∀ rest, firstOf 0 (pre ++ rest) = firstOf (pre.length : Int) rest) ∧ Below w.heap.size w W)
    (fun c pre W => ((c = .exit 0 ∧ ∃ q : Int, (W.cell? ⟨w.heap.size, 0, none⟩ = some (.int .i64 q) ∧ W.frozen? ⟨w.heap.size, 0, none⟩ = false) ∧ ∀ rest, firstOf 0 (pre ++ rest) = q)) ∧ Below w.heap.size w W)
    ?own1 ?own2
    ⟨⟨⟨(bS.alloc _).cell, (bS.alloc _).frozen⟩, fun _ => rfl⟩, hB0⟩
    (fun x => { tmps := #[.slice A zs.length cap, .int .i64 m2, undef, undef, .int .i64 0, .pointer (some ⟨w.heap.size, 0, none⟩), .int .i64 x, .int .i64 nn, .int .i64 m1, .int .i64 m2, .slice A zs.length cap, .func (.func 77) #[] #[.pointer (some ⟨w.heap.size + 1, 0, none⟩)], .int .i64 x, undef, undef, undef, undef, undef, undef, undef, undef], defers := [] }) ?assign ?body ?done ?stop
  case own1 =>
    exact OwnFrom.and (Own.from (fun s A B row hs hg hr => ⟨⟨cell_kept hs.1.1 hg hr, (frozen_kept hs.1.1 hg hr).trans hs.1.2⟩, hs.2⟩) _) (ownFrom_below (Nat.le_refl _) (by simp; omega))
  case own2 =>
    intro c
    refine OwnFrom.and (Own.from (fun s A B row hs hg hr => ?_) _) (ownFrom_below (Nat.le_refl _) (by simp; omega))
    obtain ⟨e, q, h1, h2⟩ := hs
    exact ⟨e, q, ⟨cell_kept h1.1 hg hr, (frozen_kept h1.1 hg hr).trans h1.2⟩, h2⟩
  case hI =>
    obtain ⟨ad, rfl, hcs⟩ := hI hp
    exact ⟨ad, rfl, fun j hj => (hB0.cell (World.block_lt_of_cell? w _ (hcs j hj))).trans (hcs j hj)⟩
  case assign =>
    intro l x W K hK
    gi_wp2
    exact hK
  case body =>
    rintro l pre x W ⟨⟨⟨hc, hf⟩, hfo⟩, hB⟩ hpl
    have hpl2 : (pre.length : Int) < 1125899906842624 := by omega
    by_cases hx : x > (pre.length : Int)
    · gi_wp2
      refine ⟨KeepsFrom.refl _ _, ⟨rfl, pre.length, ⟨hc, hf⟩, fun rest => ?_⟩, hB⟩
      rw [List.append_assoc, hfo]
      show (if x > (pre.length : Int) then _ else _) = _
      rw [if_pos hx]
    · gi_wp2
      refine ⟨(KeepsOthers.setCell _ _ _).from _, Kb.setCell _ _ _ (by simp), ⟨⟨?_, by rw [World.frozen?_setCell]; exact hf⟩, fun rest => ?_⟩, hB.setCell (p := ⟨w.heap.size, 0, none⟩) (Nat.le_refl _) _⟩
      · refine (World.cell?_setCell_same' _ _ _ (by rw [hc]; rfl)).trans ?_
        rw [List.length_append]; simp
      · rw [List.append_assoc, hfo]
        show (if x > (pre.length : Int) then _ else _) = _
        rw [if_neg (by omega), List.length_append]; rfl
  case done =>
    rintro D ys W hD rfl ⟨⟨⟨hc, _⟩, hfo⟩, hB⟩ hK
    have hq := hfo []
    rw [List.append_nil, hfo0] at hq
    have hc2 : W.cell? ⟨w.heap.size, 0, none⟩ = some (.int .i64 fo) := by rw [hc, hq]; rfl
    clear hc hq
    gi_wp2
    refine ⟨by simp, .inl ⟨_, _, rfl, run_takeDeferred hK, ?_⟩⟩
    exact ⟨_, results_tmp rfl _ _ _, rfl, hB.trans (belowK_b (w := w) (Nat.le_refl _) W D _ _ (by simp at hD; omega) hK rfl rfl)⟩
  case stop =>
    rintro D c pre W hD ⟨rest, hrest⟩ ⟨⟨rfl, q, ⟨hc, _⟩, hfo⟩, hB⟩ hK
    obtain rfl : fo = q := by rw [← hfo0, ← hrest, hfo]
    gi_wp2
    refine ⟨by simp, .inl ⟨_, _, rfl, run_takeDeferred hK, ?_⟩⟩
    exact ⟨_, results_tmp rfl _ _ _, rfl, hB.trans (belowK_b (w := w) (Nat.le_refl _) W D _ _ (by simp at hD; omega) hK rfl rfl)⟩

theorem bits_First.calls (A0 : Option Addr) (c0 : Nat) (l0 : List Int) (a1 : Int) (r : Int) (w : World) (hr0 : Kd.C (Kd.int .u8) w A0 l0.length l0) (hc0 : l0.length ≤ c0) (h : bits_First.f l0 a1 = some r) :
    Calls Try.prog 51 #[.slice A0 l0.length c0, .int .i64 a1] w fun e w' => e = .returned (.int .i64 r) ∧ Below w.heap.size w w' := by
  unfold bits_First.f at h
  by_cases hl : l0.length < 140737488355328 ∧ bytesB l0 = true
  · rw [if_pos hl] at h
    obtain rfl := Option.some.inj h
    have hr : ReadsInt w .u8 A0 l0.length l0 := Kd.reads_of_C (d := (0 : Int)) hr0
    refine (callsIn_wide (n := 3)).1 ?_
    exact first_in A0 c0 l0 a1 w (bytesB_at hl.2) hl.1 hc0 (fun hp ad h => by
      obtain ⟨ad2, e, hc⟩ := hr.2.2 hp
      cases h.symm.trans e
      exact World.block_lt_of_cell? w _ (hc 0 hp)) hr.2.2
  · rw [if_neg hl] at h; cases h
end Go.Proofs.Ytbaokbfmancjlaa.E
