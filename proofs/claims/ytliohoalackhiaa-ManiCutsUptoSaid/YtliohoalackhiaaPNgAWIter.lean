/- arena.words hands out all words of an arena, each with its number: for every arena of fewer than 2^47 words, in whatever memory. -/
import Derived.RangeFuncNested
import Derived.RangeFuncBound
import Derived.RangeFuncCalls
import Derived.RangeFuncLeaves
import Derived.Shelf.Abstract
import Derived.Shelf.RegionOpen
import Derived.WalkKit
import Derived.OwnWalkIn
import Derived.TacticsInMore
import Derived.LoopNIn
import Derived.LoopIn
import Derived.Lib.Hide
import Derived.Test.YtliohoalackhiaaPNx0
namespace Go.Proofs.Ytliohoalackhiaa.N
open Go.RowKit Go.Shelf Go.Proofs.YtliohoalackhiaaW.PrintWords Go.Proofs.YtliohoalackhiaaW.PrintMore
set_option linter.unusedVariables false
set_option linter.unusedSimpArgs false
attribute [local go_sem] Oper.semAt_some
/-- numbers, from k on, each with its number -/
def enumF (k : Nat) : List Int → List (Int × Int)
  | [] => []
  | x :: t => ((k : Int), x) :: enumF (k + 1) t
theorem enumF_length (l : List Int) : ∀ k, (enumF k l).length = l.length := by
  induction l with
  | nil => intro k; rfl
  | cons x t ih => intro k; simp [enumF, ih]
theorem enumF_snd (l : List Int) : ∀ k, (enumF k l).map (·.2) = l := by
  induction l with
  | nil => intro k; rfl
  | cons x t ih => intro k; simp [enumF, ih]
/-- a segment of an arena that is read -/
theorem at_seg {w : World} {A : Option Addr} {n : Nat} {xs : List (List Int)} (h : Kd.C (Kd.slice 38 (Kd.int .u64)) w A n xs) (i : Nat) (h1 : i < n) : ∃ ad A0 c0, A = some ad ∧ w.cell? (ad.add i) = some (.slice A0 (xs.getD i []).length c0) ∧ (xs.getD i []).length ≤ c0 ∧ (Kd.int .u64).C w A0 (xs.getD i []).length (xs.getD i []) := by
  obtain ⟨ad, c, e, _, hK, hc0⟩ := Kd.C_get h ([] : List Int) (i : Int) (by omega) (by omega)
  have hc : ∀ j u, c[j]? = some u → w.cell? (ad.add ((i : Int).toNat * 1 + j)) = some u := hc0
  rw [Int.toNat_natCast] at hK hc
  obtain ⟨A0, c0, rfl, l0, g0⟩ := hK
  exact ⟨ad, A0, c0, e, by have hq := hc 0 _ rfl; rwa [Nat.mul_one, Nat.add_zero] at hq, l0, g0⟩
theorem drop_flat {a : List (List Int)} {i : Nat} (h : i < a.length) : (a.drop i).flatten = a.getD i [] ++ (a.drop (i + 1)).flatten := by
  rw [List.drop_eq_getElem_cons h, List.flatten_cons, List.getD_eq_getElem?_getD, List.getElem?_eq_getElem h]; rfl
theorem drop_getD0 {l : List Int} {k : Nat} (h : k < l.length) : l.drop k = l.getD k 0 :: l.drop (k + 1) := by
  rw [List.drop_eq_getElem_cons h, List.getD_eq_getElem?_getD, List.getElem?_eq_getElem h]; rfl
set_option maxRecDepth 100000 in
set_option maxHeartbeats 4000000 in
theorem words1_in (n : Nat) (hn : 1 ≤ n) (l Bs : Nat) (w0 : World) (A : Option Addr) (cap : Nat) (a : List (List Int)) (hC : Kd.C (Kd.slice 38 (Kd.int .u64)) w0 A a.length a) (hmax : a.flatten.length < 140737488355328) (hal : a.length ≤ maxLen)
    (J Jx : List (Int × Int) → World → Prop)
    (hY : ∀ pre x W, J pre W → pre.length < a.flatten.length → YieldAt Fence.wide (n - 1) Try.prog l #[.int .i64 x.1, .int .u64 x.2] W fun e W' =>
      (e = .returned (.bool true) ∧ J (pre ++ [x]) W' ∧ Below w0.heap.size W W') ∨ (e = .returned (.bool false) ∧ Jx (pre ++ [x]) W'))
    (W : World) (hB0 : Below w0.heap.size w0 W) (hBs : W.cell? ⟨Bs, 0, none⟩ = some (.slice A a.length cap)) (h0 : J [] W) :
    CallsIn Fence.wide n Try.prog 148 #[.func (.yield l) #[] #[], .pointer (some ⟨Bs, 0, none⟩)] W fun e W' => (∃ v, e = .returned v) ∧
      ((∃ ys, ys = enumF 0 a.flatten ∧ J ys W') ∨ (∃ pre, (∃ rest, pre ++ rest = enumF 0 a.flatten) ∧ Jx pre W')) := by
  unfold maxLen at hal
  refine callsIn_of_wp Try.func148 rfl trivial ?_ rfl
  simp only [Try.ntmps148, List.size_toArray, List.length_cons, List.length_nil, Nat.reduceAdd, Nat.reduceSub, Array.replicate_succ, Array.replicate_zero, List.push_toArray, List.append_toArray, List.nil_append, List.cons_append]
  have HC := Aside0.mk hC
  clear hC
  gi_wp2
  gi_loopw [3, 10] (fun at_ i wr => ∃ (k : Nat) (pre : List (Int × Int)), k ≤ a.length ∧ i = .int .i64 k ∧ at_ = .int .i64 pre.length ∧ J pre wr ∧ Below w0.heap.size w0 wr ∧ pre ++ enumF pre.length (a.drop k).flatten = enumF 0 a.flatten)
    (fun _ i _ => a.length - (intOf i).toNat)
  case atStart => exact ⟨0, [], Nat.zero_le _, rfl, rfl, h0, hB0, rfl⟩
  case round =>
    obtain ⟨k, pre, hk, rfl, rfl, hJ, hnx, hpre⟩ := hrel
    by_cases hlt : k < a.length
    · obtain ⟨ad, A0, c0, rfl, hcx0, hc0, hg⟩ := at_seg HC.out k hlt
      have hcx := (hnx.cell (World.block_lt_of_cell? _ _ hcx0)).trans hcx0
      rw [drop_flat hlt] at hpre
      generalize hseg : a.getD k [] = sg at hcx hcx0 hc0 hg hpre
      have hsl : sg.length ≤ 140737488355328 := by
        have h1 := congrArg List.length hpre
        rw [List.length_append, enumF_length, enumF_length, List.length_append] at h1
        omega
      have HP := Aside0.mk hpre
      have HG := Aside0.mk hg
      clear hpre hg hseg hcx0
      obtain ⟨wo, hwo⟩ : ∃ wo, wo = wr := ⟨_, rfl⟩
      subst hwo
      gi_wp2
      gi_loopw [3, 16] (fun at_ j wr2 => ∃ (m : Nat) (pre : List (Int × Int)), m ≤ sg.length ∧ j = .int .i64 m ∧ at_ = .int .i64 pre.length ∧ J pre wr2 ∧ Below w0.heap.size w0 wr2 ∧ Aside0 (pre ++ enumF pre.length (sg.drop m ++ (a.drop (k + 1)).flatten) = enumF 0 a.flatten))
        (fun _ j _ => sg.length - (intOf j).toNat)
      case atStart => exact ⟨0, pre, Nat.zero_le _, rfl, rfl, hJ, hnx, HP⟩
      case round =>
        clear HP hJ hnx hcx
        obtain ⟨m, pre2, hm, rfl, rfl, hJ2, hnx2, HP2⟩ := hrel
        by_cases hml : m < sg.length
        · obtain ⟨ad0, e0, hw0⟩ := Kd.at_int (Kd.C_below HG.out hnx2) (m : Int) (by omega) (by omega)
          subst e0
          rw [Int.toNat_natCast] at hw0
          have hp2 := HP2.out
          rw [drop_getD0 hml, List.cons_append] at hp2
          have hlen : pre2.length < a.flatten.length := by
            have h1 := congrArg List.length hp2
            rw [List.length_append, enumF_length, enumF_length] at h1
            simp only [List.length_cons] at h1
            omega
          have hx : rd sg (m : Int) = sg.getD m 0 := by unfold rd; rw [Int.toNat_natCast]
          rw [hx] at hw0
          generalize sg.getD m 0 = x at hw0 hp2
          obtain ⟨fn, tmps, assign, body, hy, hR⟩ := hY pre2 ((pre2.length : Int), x) wr hJ2 hlen
          dsimp only at hy
          have HP3 := Aside0.mk hp2
          have hpl : (pre2.length : Int) ≤ 140737488355328 := by omega
          clear hp2 HP2 hx
          gi_wp2
          refine hR.mono ?_
          rintro e W3 (⟨rfl, hJ3, hk3⟩ | ⟨rfl, hJx3⟩)
          · gi_wp2
            go_roundw
            case rel => exact ⟨m + 1, _, by omega, by go_num, by rw [List.length_append]; simp, hJ3, hnx2.trans hk3, ⟨by have := HP3.out; rw [List.append_assoc, List.length_append]; simpa [enumF] using this⟩⟩
            case measure => simp [intOf]; omega
          · gi_wp2
            refine bodyPost_ret (results_none rfl _ _ _) rfl ?_
            exact ⟨⟨_, rfl⟩, .inr ⟨_, ⟨enumF (pre2.length + 1) (sg.drop (m + 1) ++ (a.drop (k + 1)).flatten), by rw [← HP3.out]; simp [enumF]⟩, hJx3⟩⟩
        · obtain rfl : m = sg.length := by omega
          gi_wp2
          go_roundw
          case rel => exact ⟨k + 1, pre2, by omega, by go_num, rfl, hJ2, hnx2, by have := HP2.out; rw [List.drop_length, List.nil_append] at this; exact this⟩
          case measure => simp [intOf]; omega
    · obtain rfl : k = a.length := by omega
      gi_wp2
      go_end0
      exact ⟨⟨_, rfl⟩, .inl ⟨_, by rw [← hpre]; simp [enumF], hJ⟩⟩
set_option maxHeartbeats 1000000 in
theorem words_in (n : Nat) (a : Option Addr) (len cap : Nat) (w : World) :
    CallsIn Fence.wide n Try.prog 124 #[.slice a len cap] w fun e w' => e = .returned (.func (.func 148) #[] #[.pointer (some ⟨w.heap.size, 0, none⟩)]) ∧ w' = w.alloc (.cells #[.slice a len cap] 40) := by
  refine callsIn_of_wp Try.func124 rfl trivial ?_ rfl
  simp only [Try.ntmps124, List.size_toArray, List.length_cons, List.length_nil, Nat.reduceAdd, Nat.reduceSub, Array.replicate_succ, Array.replicate_zero, List.push_toArray, List.append_toArray, List.nil_append, List.cons_append]
  gi_wp2
  go_ret
  exact ⟨rfl, rfl⟩
theorem words_stops (n : Nat) (hn : 1 ≤ n) (Bs : Nat) (w0 : World) (A : Option Addr) (cap : Nat) (a : List (List Int)) (hC : Kd.C (Kd.slice 38 (Kd.int .u64)) w0 A a.length a) (hmax : a.flatten.length < 140737488355328) (hal : a.length ≤ maxLen)
    (w : World) (hBw : Below w0.heap.size w0 w) (hc : w.cell? ⟨Bs, 0, none⟩ = some (.slice A a.length cap)) :
    SeqStopsK Fence.wide n Try.prog 148 #[.pointer (some ⟨Bs, 0, none⟩)] (fun x : Int × Int => #[Value.int .i64 x.1, Value.int .u64 x.2]) (Below w0.heap.size) (fun ys => ys = enumF 0 a.flatten) (fun pre => ∃ rest, pre ++ rest = enumF 0 a.flatten) a.flatten.length w := fun l J Jx W hW _ _ hY h0 =>
  words1_in n hn l Bs w0 A cap a hC hmax hal J Jx hY W (hBw.trans (hW.mono hBw.size)) ((hW.cell (World.block_lt_of_cell? _ _ hc)).trans hc) h0
/-- What arena.Words computes. -/
def arena_Words.f (l0 : List (List Int)) : Option Int := if l0.flatten.length < 140737488355328 then some (l0.flatten.length : Int) else none
end Go.Proofs.Ytliohoalackhiaa.N
