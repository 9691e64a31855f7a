/- slices.Chunk hands out a row piece by piece: for every row, in whatever memory. -/
import Derived.RangeFuncNested
import Derived.RangeFuncBound
import Derived.RangeFuncCalls
import Derived.RangeFuncLeaves
import Derived.Shelf.Abstract
import Derived.Shelf.RegionOpen
import Derived.WalkKit
import Derived.OwnWalkIn
import Derived.TacticsInMore
import Derived.LoopNIn
import Derived.LoopIn
import Derived.Lib.Hide
import Derived.Test.YtliohoalackhiaaPNx0
import Derived.Test.YtliohoalackhiaaPRound
namespace Go.Proofs.Ytliohoalackhiaa.N.ChunkB
open Go.RowKit Go.Shelf Go.Proofs.YtliohoalackhiaaW.PrintWords Go.Proofs.YtliohoalackhiaaW.PrintLast Go.Proofs.YtliohoalackhiaaW.PrintMore
set_option linter.unusedVariables false
set_option linter.unusedSimpArgs false
attribute [local go_sem] Oper.semAt_some
attribute [local go_sem] max2_int min2_int max_two min_two
/-- where the pieces of n things lie, m each, from i on: each one's begin, and how long it is -/
def chunkF (m n : Nat) : Nat → Nat → List (Nat × Nat)
  | 0, _ => []
  | f + 1, i => if i < n then (i, min m (n - i)) :: chunkF m n f (i + m) else []
def Piece (n : Nat) : Type := { x : Nat × Nat // x.1 + x.2 ≤ n ∧ 0 < x.2 }
/-- two blocks lie as they lay -/
def KeepTwo (b b' : Nat) (W W' : World) : Prop := (∀ o, W.heap[b]? = some o → W'.heap[b]? = some o) ∧ ∀ o, W.heap[b']? = some o → W'.heap[b']? = some o
theorem cut_lo (A : Option Addr) (n c i : Nat) (h : i ≤ n) : ∃ A', ∀ W : World, (Instr.slice 22 (.slice A n c) (some (.int .i64 (i : Int))) none none).run Try.prog W = .ok (.slice A' (n - i) (c - i)) W := by
  refine ⟨if c = i then A else A.map (·.add i), fun W => ?_⟩
  have hel : Try.prog.elem 22 = 5 := by simp [Program.elem, Try.underlying22]
  have hu : Try.prog.underlying 22 = some (.slice (Try.prog.elem 22)) := by rw [hel]; exact Try.underlying22
  rw [run_slice_l W 22 A n c hu .i64 (i : Int) (by omega) (by omega), hel]
  obtain ⟨i0, hi, hz0, hz1, hz2⟩ := info_parts info5
  simp [sizeOf, typeInfo, hi, hz1, sliced, Result.andThen]
theorem cut_three (ad : Addr) (n c i e : Nat) (h : i + e ≤ n) (h0 : 0 < e) (hc : n ≤ c) : ∀ W : World, (Instr.slice 22 (.slice (some ad) n c) (some (.int .i64 (i : Int))) (some (.int .i64 ((i : Int) + (e : Int)))) (some (.int .i64 ((i : Int) + (e : Int))))).run Try.prog W = .ok (.slice (some (ad.add i)) e e) W := by
  intro W
  have hel : Try.prog.elem 22 = 5 := by simp [Program.elem, Try.underlying22]
  have hu : Try.prog.underlying 22 = some (.slice (Try.prog.elem 22)) := by rw [hel]; exact Try.underlying22
  rw [run_slice_lhm W 22 (some ad) n c hu .i64 .i64 .i64 (i : Int) ((i : Int) + (e : Int)) ((i : Int) + (e : Int)) (by omega) (by omega) (by omega) (by omega), hel]
  obtain ⟨i0, hi, hz0, hz1, hz2⟩ := info_parts info5
  have e1 : ((i : Int) + (e : Int)).toNat = i + e := by omega
  have e2 : ¬ (i + e = i) := by omega
  simp [sizeOf, typeInfo, hi, hz1, sliced, Result.andThen, e1, e2]
  omega
set_option maxRecDepth 100000 in
set_option maxHeartbeats 4000000 in
theorem chunk1_in (q : Nat) (hq : 1 ≤ q) (l Bs Bn : Nat) (A : Option Addr) (n c m : Nat) (hA : 0 < n → ∃ ad, A = some ad) (hm : 1 ≤ m ∧ m ≤ 1000) (hc : n ≤ c) (hn : n ≤ 9223372036854774000) (J Jx : List (Piece n) → World → Prop) (hD : ∀ pre W, J pre W → J pre W.drew)
    (hY : ∀ pre x W, J pre W → pre.length < n → YieldAt Fence.wide (q - 1) Try.prog l #[.slice (A.map (·.add x.1.1)) x.1.2 x.1.2] W fun e W' =>
      (e = .returned (.bool true) ∧ J (pre ++ [x]) W' ∧ KeepTwo Bs Bn W W') ∨ (e = .returned (.bool false) ∧ Jx (pre ++ [x]) W'))
    (W : World) (hS : W.heap[Bs]? = some (.cells #[.slice A n c] 22 (0, 0))) (hN : W.heap[Bn]? = some (.cells #[.int .i64 (m : Int)] 3 (0, 0))) (h0 : J [] W) :
    CallsIn Fence.wide q Try.prog 155 #[.func (.yield l) #[] #[], .pointer (some ⟨Bs, 0, none⟩), .pointer (some ⟨Bn, 0, none⟩)] W fun e W' => (∃ v, e = .returned v) ∧
      ((∃ ys, ys.map (·.1) = chunkF m n (n + 1) 0 ∧ J ys W') ∨ (∃ pre, (∃ rest, pre.map (·.1) ++ rest = chunkF m n (n + 1) 0) ∧ Jx pre W')) := by
  have I0 : Aside0 (W.heap[Bs]? = some (.cells #[.slice A n c] 22 (0, 0)) ∧ W.heap[Bn]? = some (.cells #[.int .i64 (m : Int)] 3 (0, 0))) := ⟨⟨hS, hN⟩⟩
  clear hS hN
  refine callsIn_of_wp Try.func155 rfl trivial ?_ rfl
  simp only [Try.ntmps155, List.size_toArray, List.length_cons, List.length_nil, Nat.reduceAdd, Nat.reduceSub, Array.replicate_succ, Array.replicate_zero, List.push_toArray, List.append_toArray, List.nil_append, List.cons_append]
  gi_wp2
  gi_loopw [4] (fun v4 wr => ∃ (i f : Nat) (pre : List (Piece n)), v4 = .int .i64 (i : Int) ∧ i ≤ n + m ∧ f + pre.length = n + 1 ∧ pre.length ≤ i ∧ pre.length ≤ n ∧ Aside0 (wr.heap[Bs]? = some (.cells #[.slice A n c] 22 (0, 0)) ∧ wr.heap[Bn]? = some (.cells #[.int .i64 (m : Int)] 3 (0, 0))) ∧ J pre wr ∧ Aside0 (pre.map (·.1) ++ chunkF m n f i = chunkF m n (n + 1) 0))
    (fun v4 _ => n + m - (intOf v4).toNat)
  case atStart => exact ⟨0, n + 1, [], rfl, by omega, by simp, by simp, by simp, I0, h0, ⟨rfl⟩⟩
  case round =>
    clear I0
    obtain ⟨i, f, pre, rfl, hi, hf, hpl, hpn, HI, hJ, HP⟩ := hrel
    have hf1 : 1 ≤ f := by omega
    obtain ⟨f, rfl⟩ : ∃ g, f = g + 1 := ⟨f - 1, by omega⟩
    have hp := HP.out
    rw [chunkF] at hp
    have ks : wr.cell? ⟨Bs, 0, none⟩ = some (.slice A n c) := (blk_cell HI.out.1 0).trans rfl
    have kn : wr.cell? ⟨Bn, 0, none⟩ = some (.int .i64 (m : Int)) := (blk_cell HI.out.2 0).trans rfl
    by_cases hlt : i < n
    · rw [if_pos hlt] at hp
      obtain ⟨ad, rfl⟩ := hA (by omega)
      obtain ⟨e, he⟩ : ∃ e, min m (n - i) = e := ⟨_, rfl⟩
      rw [he] at hp
      have he1 : 0 < e ∧ i + e ≤ n ∧ e ≤ m := by omega
      have hmin : (if ((n - i : Nat) : Int) < (m : Int) then ((n - i : Nat) : Int) else (m : Int)) = (e : Int) := by split <;> omega
      have hmin2 : (if n - i < m then ((n - i : Nat) : Int) else (m : Int)) = (e : Int) := by split <;> omega
      obtain ⟨A', hcut⟩ := cut_lo (some ad) n c i (by omega)
      have hcut3 := cut_three ad n c i e he1.2.1 he1.1 hc
      obtain ⟨X, hX⟩ : ∃ X : Piece n, X = ⟨(i, e), he1.2.1, he1.1⟩ := ⟨_, rfl⟩
      obtain ⟨fn, tmps, assign, body, hy, hR⟩ := hY pre X wr.drew (hD _ _ hJ) (by omega)
      have hX1 : X.1 = (i, e) := by rw [hX]
      have HX := Aside0.mk hX1
      rw [hX1] at hy
      dsimp only [Option.map_some] at hy
      have HS := Aside0.mk (show wr.drew.cell? ⟨Bs, 0, none⟩ = some (.slice (some ad) n c) from ks)
      have HN := Aside0.mk (show wr.drew.cell? ⟨Bn, 0, none⟩ = some (.int .i64 (m : Int)) from kn)
      have HPP := Aside0.mk hp
      clear hp HP hX hX1
      gi_wp2_with fail
      clear ks kn
      refine wpIn_wide.2 ?_
      refine start_ (n := 7) (S := fun w' => w'.cell? ⟨Bn, 0, none⟩ = some (.int .i64 (m : Int)) ∧ w'.cell? ⟨Bs, 0, none⟩ = some (.slice (some ad) n c)) (ds := []) #[false, false, false, false, false, false, false] (by kernel_rfl) rfl rfl ⟨HN.out, HS.out⟩ (fun hHeld => ?_)
      generalize hwd : wr.drew = w2 at HN HS hHeld hy hR ⊢
      refine pure_ (i := 2) (N := some 15) (v := ?_) (a' := ?_) #[false, false, true, false, false, false, false] rfl rfl (by kernel_rfl) (fun _ _ _ h => h) (Or.inl ⟨by rfl, ?_⟩) ?_ ?_
      rotate_left
      · intro w'
        go_simp
        with_reducible rfl
      rotate_left
      · simp only [Act.put, List.setIfInBounds_toArray, List.set_cons_zero, List.set_cons_succ, i64_w, i32_w]
        rfl
      refine take_ (i := 0) (N := some 13) (v := ?_) (a' := ?_) #[true, false, true, false, false, false, false] rfl rfl (by kernel_rfl) (fun _ _ _ h => h) (Or.inl ⟨by rfl, ?_⟩) hHeld ?_ ?_
      rotate_left
      · rintro w' ⟨s0, s1⟩
        go_simp
        with_reducible rfl
      rotate_left
      · simp only [Act.put, List.setIfInBounds_toArray, List.set_cons_zero, List.set_cons_succ, i64_w, i32_w]
        rfl
      refine take_ (i := 1) (N := some 14) (v := ?_) (a' := ?_) #[true, true, true, false, false, false, false] rfl rfl (by kernel_rfl) (fun _ _ _ h => h) (Or.inl ⟨by rfl, ?_⟩) hHeld ?_ ?_
      rotate_left
      · rintro w' ⟨s0, s1⟩
        go_simp
        with_reducible rfl
      rotate_left
      · simp only [Act.put, List.setIfInBounds_toArray, List.set_cons_zero, List.set_cons_succ, i64_w, i32_w]
        rfl
      refine pure_ (i := 3) (N := some 16) (v := ?_) (a' := ?_) #[true, true, true, true, false, false, false] rfl rfl (by kernel_rfl) (fun _ _ _ h => h) (Or.inl ⟨by rfl, ?_⟩) ?_ ?_
      rotate_left
      · intro w'
        go_simp
        with_reducible rfl
      rotate_left
      · simp only [Act.put, List.setIfInBounds_toArray, List.set_cons_zero, List.set_cons_succ, i64_w, i32_w]
        rfl
      refine pure_ (i := 4) (N := some 17) (v := ?_) (a' := ?_) #[true, true, true, true, true, false, false] rfl rfl (by kernel_rfl) (fun _ _ _ h => h) (Or.inl ⟨by rfl, ?_⟩) ?_ ?_
      rotate_left
      · intro w'
        go_simp
        with_reducible rfl
      rotate_left
      · simp only [Act.put, List.setIfInBounds_toArray, List.set_cons_zero, List.set_cons_succ, i64_w, i32_w]
        rfl
      refine pure_ (i := 5) (N := some 18) (v := ?_) (a' := ?_) #[true, true, true, true, true, true, false] rfl rfl (by kernel_rfl) (fun _ _ _ h => h) (Or.inl ⟨by rfl, ?_⟩) ?_ ?_
      rotate_left
      · intro w'
        go_simp
        with_reducible rfl
      rotate_left
      · simp only [Act.put, List.setIfInBounds_toArray, List.set_cons_zero, List.set_cons_succ, i64_w, i32_w]
        rfl
      refine pure_ (i := 6) (N := some 5) (v := ?_) (a' := ?_) #[true, true, true, true, true, true, true] rfl rfl (by kernel_rfl) (fun _ _ _ h => h) (Or.inl ⟨by rfl, ?_⟩) ?_ ?_
      rotate_left
      · intro w'
        go_simp
        with_reducible rfl
      rotate_left
      · simp only [Act.put, List.setIfInBounds_toArray, List.set_cons_zero, List.set_cons_succ, i64_w, i32_w]
        rfl
      refine done_ (by kernel_rfl) ?_

      have ks := HS.out
      have kn := HN.out
      gi_wp2
      refine hR.mono ?_
      clear hR hy
      have H2 : Aside0 (w2.heap[Bs]? = some (.cells #[.slice (some ad) n c] 22 (0, 0)) ∧ w2.heap[Bn]? = some (.cells #[.int .i64 (m : Int)] 3 (0, 0))) := ⟨by rw [← hwd]; exact HI.out⟩
      rintro e' W3 (⟨rfl, hJ3, hk3⟩ | ⟨rfl, hJx3⟩)
      · have H3 : Aside0 (W3.heap[Bs]? = some (.cells #[.slice (some ad) n c] 22 (0, 0)) ∧ W3.heap[Bn]? = some (.cells #[.int .i64 (m : Int)] 3 (0, 0))) := ⟨⟨hk3.1 _ H2.out.1, hk3.2 _ H2.out.2⟩⟩
        clear ks kn H2 HN HS hHeld hk3 hwd
        have kn : W3.cell? ⟨Bn, 0, none⟩ = some (.int .i64 (m : Int)) := (blk_cell H3.out.2 0).trans rfl
        gi_wp2
        go_roundw
        case rel => exact ⟨i + m, f, pre ++ [X], by first | rfl | (simp; done) | go_num, by omega, by rw [List.length_append]; simp; omega, by rw [List.length_append]; simp; omega, by rw [List.length_append]; simp; omega, H3, hJ3, ⟨by rw [List.map_append, List.append_assoc]; simpa [HX.out] using HPP.out⟩⟩
        case measure => simp [intOf]; omega
      · gi_wp2
        refine bodyPost_ret (results_none rfl _ _ _) rfl ?_
        exact ⟨⟨_, rfl⟩, .inr ⟨pre ++ [X], ⟨chunkF m n f (i + m), by rw [← HPP.out, List.map_append, List.append_assoc]; simp [HX.out]⟩, hJx3⟩⟩
    · rw [if_neg hlt, List.append_nil] at hp
      have hlt' : ¬ (i : Int) < (n : Int) := by omega
      have HPP := Aside0.mk hp
      clear hp HP
      gi_wp2
      go_end0
      exact ⟨⟨_, rfl⟩, .inl ⟨_, HPP.out, hJ⟩⟩
set_option maxHeartbeats 1000000 in
theorem chunk_in (q : Nat) (A : Option Addr) (n c m : Nat) (hm : 1 ≤ m) (w : World) :
    CallsIn Fence.wide q Try.prog 130 #[.slice A n c, .int .i64 (m : Int)] w fun e w' => e = .returned (.func (.func 155) #[] #[.pointer (some ⟨w.heap.size, 0, none⟩), .pointer (some ⟨w.heap.size + 1, 0, none⟩)]) ∧ w' = (w.alloc (.cells #[.slice A n c] 22)).alloc (.cells #[.int .i64 (m : Int)] 3) := by
  have hd : ¬ (m : Int) < 1 := by omega
  refine callsIn_of_wp Try.func130 rfl trivial ?_ rfl
  simp only [Try.ntmps130, List.size_toArray, List.length_cons, List.length_nil, Nat.reduceAdd, Nat.reduceSub, Array.replicate_succ, Array.replicate_zero, List.push_toArray, List.append_toArray, List.nil_append, List.cons_append]
  gi_wp2
  go_ret
  exact ⟨rfl, rfl⟩
theorem grown_drew (W : World) : W.grownBy W.drew none := ⟨rfl, rfl, rfl, Nat.le_refl _, fun _ _ _ => rfl⟩
theorem chunk_stops (q : Nat) (hq : 1 ≤ q) (Bs Bn : Nat) (A : Option Addr) (n c m : Nat) (hA : 0 < n → ∃ ad, A = some ad) (hm : 1 ≤ m ∧ m ≤ 1000) (hc : n ≤ c) (hn : n ≤ 9223372036854774000) (w : World)
    (hS : w.heap[Bs]? = some (.cells #[.slice A n c] 22 (0, 0))) (hN : w.heap[Bn]? = some (.cells #[.int .i64 (m : Int)] 3 (0, 0))) :
    SeqStopsK Fence.wide q Try.prog 155 #[.pointer (some ⟨Bs, 0, none⟩), .pointer (some ⟨Bn, 0, none⟩)] (fun x : Piece n => #[.slice (A.map (·.add x.1.1)) x.1.2 x.1.2]) (KeepTwo Bs Bn) (fun ys => ys.map (·.1) = chunkF m n (n + 1) 0) (fun pre => ∃ rest, pre.map (·.1) ++ rest = chunkF m n (n + 1) 0) n w := fun l J Jx W hW hJ _ hY h0 =>
  chunk1_in q hq l Bs Bn A n c m hA hm hc hn J Jx (fun pre W h => hJ pre W W.drew none h (grown_drew W) (fun r e => by cases e)) hY W (blk_below hS hW) (blk_below hN hW) h0
theorem keepTwo_t (b b' : Nat) {X Y Z : World} (h : KeepTwo b b' X Y) (k : KeepTwo b b' Y Z) : KeepTwo b b' X Z := ⟨fun o ho => k.1 o (h.1 o ho), fun o ho => k.2 o (h.2 o ho)⟩
theorem keepTwo_put (b b' : Nat) (W : World) (l : Nat) (o : Obj) (h : l ≠ b) (h' : l ≠ b') : KeepTwo b b' W (W.putObj l o) := ⟨fun x hx => (World.putObj_heap_other (Ne.symm h)).trans hx, fun x hx => (World.putObj_heap_other (Ne.symm h')).trans hx⟩
end Go.Proofs.Ytliohoalackhiaa.N.ChunkB
