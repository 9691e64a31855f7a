/- pack.Encode lays a datagram's fields, its sizes and its body as bytes, and their sum behind them: for every datagram, in whatever memory. -/
import Derived.RangeFuncNested
import Derived.RangeFuncBound
import Derived.RangeFuncCalls
import Derived.RangeFuncLeaves
import Derived.Shelf.Abstract
import Derived.Shelf.RegionOpen
import Derived.WalkKit
import Derived.OwnWalkIn
import Derived.TacticsInMore
import Derived.LoopNIn
import Derived.LoopIn
import Derived.Lib.Hide
import Derived.Test.YtliohoalackhiaaZIgPackR
import Derived.Test.YtliohoalackhiaaZIx1
import Derived.Test.YtliohoalackhiaaZIx3
import Derived.Test.YtliohoalackhiaaZRound
namespace Go.Proofs.Ytliohoalackhiaa.I
open Go.RowKit Go.Shelf Go.Proofs.YtliohoalackhiaaW.PrintWords Go.Proofs.YtliohoalackhiaaW.PrintLast Go.Proofs.YtliohoalackhiaaW.PrintMore
set_option linter.unusedVariables false
set_option linter.unusedSimpArgs false
attribute [local go_sem] Oper.semAt_some
/-- the bytes of a number, so many -/
def putS (x m : Int) : List Int := (word_Put.f 9 x m).getD []
theorem putS_some (x m : Int) : word_Put.f 9 x m = some (putS x m) ∧ (putS x m).length ≤ 8 := by
  have h : ∃ l, word_Put.f 9 x m = some l ∧ l.length ≤ 8 := by
    obtain ⟨s, hs⟩ : ∃ s, mx 0 (mn m 8) = s := ⟨_, rfl⟩
    have h0 : 0 ≤ s ∧ s ≤ 8 := by rw [← hs]; unfold mx mn; (repeat' split) <;> omega
    unfold word_Put.f
    rw [hs]
    have h9 : s = 0 ∨ s = 1 ∨ s = 2 ∨ s = 3 ∨ s = 4 ∨ s = 5 ∨ s = 6 ∨ s = 7 ∨ s = 8 := by omega
    rcases h9 with rfl | rfl | rfl | rfl | rfl | rfl | rfl | rfl | rfl <;> simp [word_Put.l0, wrap64]
  obtain ⟨l, e, hl⟩ := h
  unfold putS
  rw [e]
  exact ⟨rfl, hl⟩
theorem putF_len (l : List (Int × Int)) : (l.flatMap fun x => putS x.1 x.2).length ≤ 8 * l.length := by
  induction l with
  | nil => simp
  | cons x t ih => rw [List.flatMap_cons, List.length_append, List.length_cons]; have := (putS_some x.1 x.2).2; omega
theorem putZ_len (l : List Int) : (l.flatMap fun x => putS (IntKind.u64.wrap x) 2).length ≤ 8 * l.length := by
  induction l with
  | nil => simp
  | cons x t ih => rw [List.flatMap_cons, List.length_append, List.length_cons]; have := (putS_some (IntKind.u64.wrap x) 2).2; omega
/-- the numbers of a datagram's front, each with how many bytes it has -/
def packFL (a0 a1 a2 a3 a4 : Int) : List (Int × Int) := [(IntKind.u64.wrap a0, 1), (a1, 8), (IntKind.u64.wrap a2, 2), (IntKind.u64.wrap a3, 2), (IntKind.u64.wrap a4, 4)]
def packF (a0 a1 a2 a3 a4 : Int) : List Int := (packFL a0 a1 a2 a3 a4).flatMap fun x => putS x.1 x.2
/-- What pack.Encode computes. -/
def pack_Encode.f (k : Nat) (a0 a1 a2 a3 a4 : Int) (l5 l6 : List Int) : Option (List Int × Int) := if isInt a0 then (if packB a0 a2 a3 l5 l6 = true then (crc_Seal.f k ((packF a0 a1 a2 a3 a4 ++ l5.flatMap (fun x => putS (IntKind.u64.wrap x) 2)) ++ l6)).bind fun r => some (r, 0) else some ([], 1)) else none
/-- block b lies as it lay -/
def KeepBlk (b : Nat) (W W' : World) : Prop := ∀ o, W.heap[b]? = some o → W'.heap[b]? = some o
set_option maxRecDepth 100000 in
set_option maxHeartbeats 4000000 in
theorem fields1_in (n : Nat) (hn : 1 ≤ n) (l Bs : Nat) (a0 a1 a2 a3 a4 : Int) (v5 v6 : Value) (J Jx : List (Int × Int) → World → Prop)
    (hY : ∀ pre x W, J pre W → pre.length < 5 → YieldAt Fence.wide (n - 1) Try.prog l #[.int .u64 x.1, .int .i64 x.2] W fun e W' =>
      (e = .returned (.bool true) ∧ J (pre ++ [x]) W' ∧ KeepBlk Bs W W') ∨ (e = .returned (.bool false) ∧ Jx (pre ++ [x]) W'))
    (W : World) (hB : W.heap[Bs]? = some (.cells #[.int .i64 a0, .int .u64 a1, .int .i64 a2, .int .i64 a3, .int .u32 a4, v5, v6] 56 (0, 0))) (h0 : J [] W) :
    CallsIn Fence.wide n Try.prog 152 #[.func (.yield l) #[] #[], .pointer (some ⟨Bs, 0, none⟩)] W fun e W' => (∃ v, e = .returned v) ∧
      ((∃ ys, ys = packFL a0 a1 a2 a3 a4 ∧ J ys W') ∨ (∃ pre, (∃ rest, pre ++ rest = packFL a0 a1 a2 a3 a4) ∧ Jx pre W')) := by
  have HK0 := Aside0.mk hB
  clear hB
  refine callsIn_of_wp Try.func152 rfl trivial ?_ rfl
  simp only [Try.ntmps152, List.size_toArray, List.length_cons, List.length_nil, Nat.reduceAdd, Nat.reduceSub, Array.replicate_succ, Array.replicate_zero, List.push_toArray, List.append_toArray, List.nil_append, List.cons_append]
  obtain ⟨fn0, tmps0, assign0, body0, hy0, hR0⟩ := hY [] (IntKind.u64.wrap a0, 1) W h0 (by simp)
  dsimp only at hy0
  have kc0 : W.cell? ⟨Bs, 0, none⟩ = some (.int .i64 a0) := (blk_cell HK0.out 0).trans rfl
  gi_wp2
  refine hR0.mono ?_
  clear hR0 hy0
  rintro e V1 (⟨rfl, hJ1, hk1⟩ | ⟨rfl, hJx1⟩)
  · have HK1 := Aside0.mk (hk1 _ HK0.out)
    clear kc0 hk1
    obtain ⟨fn1, tmps1, assign1, body1, hy1, hR1⟩ := hY [(IntKind.u64.wrap a0, 1)] (a1, 8) V1 hJ1 (by simp)
    dsimp only at hy1
    have kc1 : V1.cell? ⟨Bs, 1, none⟩ = some (.int .u64 a1) := (blk_cell HK1.out 1).trans rfl
    gi_wp2
    refine hR1.mono ?_
    clear hR1 hy1
    rintro e V2 (⟨rfl, hJ2, hk2⟩ | ⟨rfl, hJx2⟩)
    · have HK2 := Aside0.mk (hk2 _ HK1.out)
      clear kc1 hk2
      obtain ⟨fn2, tmps2, assign2, body2, hy2, hR2⟩ := hY [(IntKind.u64.wrap a0, 1), (a1, 8)] (IntKind.u64.wrap a2, 2) V2 hJ2 (by simp)
      dsimp only at hy2
      have kc2 : V2.cell? ⟨Bs, 2, none⟩ = some (.int .i64 a2) := (blk_cell HK2.out 2).trans rfl
      gi_wp2
      refine hR2.mono ?_
      clear hR2 hy2
      rintro e V3 (⟨rfl, hJ3, hk3⟩ | ⟨rfl, hJx3⟩)
      · have HK3 := Aside0.mk (hk3 _ HK2.out)
        clear kc2 hk3
        obtain ⟨fn3, tmps3, assign3, body3, hy3, hR3⟩ := hY [(IntKind.u64.wrap a0, 1), (a1, 8), (IntKind.u64.wrap a2, 2)] (IntKind.u64.wrap a3, 2) V3 hJ3 (by simp)
        dsimp only at hy3
        have kc3 : V3.cell? ⟨Bs, 3, none⟩ = some (.int .i64 a3) := (blk_cell HK3.out 3).trans rfl
        gi_wp2
        refine hR3.mono ?_
        clear hR3 hy3
        rintro e V4 (⟨rfl, hJ4, hk4⟩ | ⟨rfl, hJx4⟩)
        · have HK4 := Aside0.mk (hk4 _ HK3.out)
          clear kc3 hk4
          obtain ⟨fn4, tmps4, assign4, body4, hy4, hR4⟩ := hY [(IntKind.u64.wrap a0, 1), (a1, 8), (IntKind.u64.wrap a2, 2), (IntKind.u64.wrap a3, 2)] (IntKind.u64.wrap a4, 4) V4 hJ4 (by simp)
          dsimp only at hy4
          have kc4 : V4.cell? ⟨Bs, 4, none⟩ = some (.int .u32 a4) := (blk_cell HK4.out 4).trans rfl
          gi_wp2
          refine hR4.mono ?_
          clear hR4 hy4
          rintro e V5 (⟨rfl, hJ5, hk5⟩ | ⟨rfl, hJx5⟩)
          · have HK5 := Aside0.mk (hk5 _ HK4.out)
            clear kc4 hk5
            gi_wp2
            go_end0
            exact ⟨⟨_, rfl⟩, .inl ⟨_, rfl, hJ5⟩⟩
          · gi_wp2_with (refine ⟨(fun _ hf_ => by cases hf_), ?_⟩)
            go_end0
            exact ⟨⟨_, rfl⟩, .inr ⟨_, ⟨[], rfl⟩, hJx5⟩⟩
        · gi_wp2_with (refine ⟨(fun _ hf_ => by cases hf_), ?_⟩)
          go_end0
          exact ⟨⟨_, rfl⟩, .inr ⟨_, ⟨[(IntKind.u64.wrap a4, 4)], rfl⟩, hJx4⟩⟩
      · gi_wp2_with (refine ⟨(fun _ hf_ => by cases hf_), ?_⟩)
        go_end0
        exact ⟨⟨_, rfl⟩, .inr ⟨_, ⟨[(IntKind.u64.wrap a3, 2), (IntKind.u64.wrap a4, 4)], rfl⟩, hJx3⟩⟩
    · gi_wp2_with (refine ⟨(fun _ hf_ => by cases hf_), ?_⟩)
      go_end0
      exact ⟨⟨_, rfl⟩, .inr ⟨_, ⟨[(IntKind.u64.wrap a2, 2), (IntKind.u64.wrap a3, 2), (IntKind.u64.wrap a4, 4)], rfl⟩, hJx2⟩⟩
  · gi_wp2_with (refine ⟨(fun _ hf_ => by cases hf_), ?_⟩)
    go_end0
    exact ⟨⟨_, rfl⟩, .inr ⟨_, ⟨[(a1, 8), (IntKind.u64.wrap a2, 2), (IntKind.u64.wrap a3, 2), (IntKind.u64.wrap a4, 4)], rfl⟩, hJx1⟩⟩
set_option maxHeartbeats 1000000 in
theorem fields_in (n : Nat) (a0 a1 a2 a3 a4 : Int) (A5 : Option Addr) (n5 c5 : Nat) (A6 : Option Addr) (n6 c6 : Nat) (w : World) :
    CallsIn Fence.wide n Try.prog 126 #[.agg #[.int .i64 a0, .int .u64 a1, .int .i64 a2, .int .i64 a3, .int .u32 a4, .slice A5 n5 c5, .slice A6 n6 c6]] w fun e w' => e = .returned (.func (.func 152) #[] #[.pointer (some ⟨w.heap.size, 0, none⟩)]) ∧ w' = w.alloc (.cells #[.int .i64 a0, .int .u64 a1, .int .i64 a2, .int .i64 a3, .int .u32 a4, .slice A5 n5 c5, .slice A6 n6 c6] 56) := by
  refine callsIn_of_wp Try.func126 rfl trivial ?_ rfl
  simp only [Try.ntmps126, List.size_toArray, List.length_cons, List.length_nil, Nat.reduceAdd, Nat.reduceSub, Array.replicate_succ, Array.replicate_zero, List.push_toArray, List.append_toArray, List.nil_append, List.cons_append]
  gi_wp2
  go_ret
  exact ⟨rfl, rfl⟩
theorem fields_stops (n : Nat) (hn : 1 ≤ n) (Bs : Nat) (a0 a1 a2 a3 a4 : Int) (v5 v6 : Value) (w : World) (hB : w.heap[Bs]? = some (.cells #[.int .i64 a0, .int .u64 a1, .int .i64 a2, .int .i64 a3, .int .u32 a4, v5, v6] 56 (0, 0))) :
    SeqStopsK Fence.wide n Try.prog 152 #[.pointer (some ⟨Bs, 0, none⟩)] (fun x : Int × Int => #[Value.int .u64 x.1, Value.int .i64 x.2]) (KeepBlk Bs) (fun ys => ys = packFL a0 a1 a2 a3 a4) (fun pre => ∃ rest, pre ++ rest = packFL a0 a1 a2 a3 a4) 5 w := fun l J Jx W hW _ _ hY h0 =>
  fields1_in n hn l Bs a0 a1 a2 a3 a4 v5 v6 J Jx hY W (blk_below hB hW) h0
/-- a way out, but for a panic -/
def noPanic (Q : Exit → Act → World → Prop) : Exit → Act → World → Prop
  | .panic _, _, _ => False
  | e, a, w => Q e a w
theorem noPanic_le {Q : Exit → Act → World → Prop} : ∀ e a w, noPanic Q e a w → Q e a w := by
  intro e a w h
  cases e <;> first | exact h | exact h.elim
/-- a row of the call's own outlives what turns no cells -/
theorem own_R {β : Type} {B e base : Nat} {ok : Nat → Prop} (g : β → List Int) (p : β → Value → World → Prop) (hp : ∀ v, OwnFrom B (fun s W => p s v W)) : OwnFrom B (fun s W => ∃ v, p s v W ∧ Kd.R (Kd.int .u8) e W base ok v (g s)) := by
  rintro s W W' row ⟨v, h1, h2⟩ hg hr
  refine ⟨v, hp v s W W' row h1 hg hr, Kd.R_mono (Kd.R_grown (Kd.R_bound h2) hg ?_) (fun k hk => hk.1)⟩
  rintro k ⟨_, _, _, q, _, cells, hc⟩ hk
  obtain ⟨_, o, ho, hn⟩ := hr k hk.symm
  rw [hc] at ho
  cases ho
  cases hn
theorem not_own {e base : Nat} {ok : Nat → Prop} {W : World} {v : Value} {xs : List Int} (h : Kd.R (Kd.int .u8) e W base ok v xs) {k : Nat} {o : Obj} (ho : W.heap[k]? = some o) (hn : o.isCells = false) : some k ≠ v.ownBlock := by
  intro e_
  obtain ⟨_, _, _, q, _, cells, hc⟩ := (Kd.R_bound h).1 k e_.symm
  rw [hc] at ho
  cases ho
  cases hn
theorem box_grown {W w1 : World} {row : Option Nat} {b : Nat} {v : Value} (hg : W.grownBy w1 row) (h : W.cell? ⟨b, 0, none⟩ = some v) (hf : W.frozen? ⟨b, 0, none⟩ = false) (hne : some b ≠ row) : w1.cell? ⟨b, 0, none⟩ = some v ∧ w1.frozen? ⟨b, 0, none⟩ = false := by
  have hb := hg.block b (World.block_lt_of_cell? _ _ h) hne
  refine ⟨World.grownBy.cell hg h hne, ?_⟩
  unfold World.frozen? at hf ⊢
  rw [hb]
  exact hf
/-- a block of cells outlives what turns no cells -/
theorem own_blk {β : Type} (B g : Nat) (cs : Array Value) (t : Nat) : OwnFrom B (fun (_ : β) W => W.heap[g]? = some (.cells cs t (0, 0))) := by
  intro s W W' row h hg hr
  refine blk_grown h hg ?_
  intro e
  obtain ⟨_, o, ho, hn⟩ := hr g e.symm
  rw [h] at ho
  cases ho
  cases hn
set_option maxRecDepth 100000 in
set_option maxHeartbeats 4000000 in
theorem encode_no (k : Nat) (a0 a1 a2 a3 a4 : Int) (A5 : Option Addr) (c5 : Nat) (l5 : List Int) (A6 : Option Addr) (c6 : Nat) (l6 : List Int) (w : World) (hi : isInt a0) (hr5 : Kd.C (Kd.int .i64) w A5 l5.length l5) (hc5 : l5.length ≤ c5) (hr6 : Kd.C (Kd.int .u8) w A6 l6.length l6) (hc6 : l6.length ≤ c6) (hB : packB a0 a2 a3 l5 l6 = false) :
    Calls Try.prog 85 #[.agg #[.int .i64 a0, .int .u64 a1, .int .i64 a2, .int .i64 a3, .int .u32 a4, .slice A5 l5.length c5, .slice A6 l6.length c6]] w fun e w' => e = .returned (.tuple #[.slice none 0 0, .int .u16 1]) ∧ Below w.heap.size w w' := by
  have HR := fun W h => pack_right.calls a0 a1 a2 a3 a4 A5 c5 l5 A6 c6 l6 false W (Kd.C_below hr5 h) hc5 (Kd.C_below hr6 h) hc6 (by unfold pack_right.f; rw [if_pos hi, hB])
  have HR2 := Aside0.mk HR
  clear HR hB hr5 hr6 hi
  go_enter Try.func85, Try.ntmps85
  go_wp2_with fail
  refine (HR2.out _ ((Below.refl _ _).alloc (Nat.le_refl _) _)).mono ?_
  rintro e w2 ⟨rfl, hb⟩
  have HB := Aside0.mk (below_step (below_alloc (Below.refl w.heap.size w) _) hb)
  clear hb
  go_wp2
  go_ret2
  exact ⟨rfl, HB.out⟩
set_option maxRecDepth 100000 in
set_option maxHeartbeats 4000000 in
theorem encode_yes (k : Nat) (a0 a1 a2 a3 a4 : Int) (A5 : Option Addr) (c5 : Nat) (l5 : List Int) (A6 : Option Addr) (c6 : Nat) (l6 : List Int) (r : List Int) (w : World) (hi : isInt a0) (hr5 : Kd.C (Kd.int .i64) w A5 l5.length l5) (hc5 : l5.length ≤ c5) (hr6 : Kd.C (Kd.int .u8) w A6 l6.length l6) (hc6 : l6.length ≤ c6) (hB : packB a0 a2 a3 l5 l6 = true) (hs : crc_Seal.f k ((packF a0 a1 a2 a3 a4 ++ l5.flatMap (fun x => putS (IntKind.u64.wrap x) 2)) ++ l6) = some r) :
    Calls Try.prog 85 #[.agg #[.int .i64 a0, .int .u64 a1, .int .i64 a2, .int .i64 a3, .int .u32 a4, .slice A5 l5.length c5, .slice A6 l6.length c6]] w fun e w' => ∃ v0_ : Value, e = .returned (.tuple #[v0_, .int .u16 0]) ∧ Kd.R (Kd.int .u8) 5 w' w.heap.size (fun _ => True) v0_ r ∧ Below w.heap.size w w' := by
  have HR := fun W h => pack_right.calls a0 a1 a2 a3 a4 A5 c5 l5 A6 c6 l6 true W (Kd.C_below hr5 h) hc5 (Kd.C_below hr6 h) hc6 (by unfold pack_right.f; rw [if_pos hi, hB])
  have HR2 := Aside0.mk HR
  have HR5 := Aside0.mk hr5
  have HR6 := Aside0.mk hr6
  have HPB := Aside0.mk hB
  have HSL := Aside0.mk hs
  clear HR hB hr5 hr6 hi hs
  refine (callsIn_wide (n := 3)).1 ?_
  refine callsIn_of_wp_marks Try.func85 rfl trivial ?_ rfl
  simp only [Try.ntmps85, List.size_toArray, List.length_cons, List.length_nil, Nat.reduceAdd, Nat.reduceSub, Array.replicate_succ, Array.replicate_zero, List.push_toArray, List.append_toArray, List.nil_append, List.cons_append]
  refine wpIn_wide.2 ?_
  go_wp2_with fail
  refine (HR2.out _ ((Below.refl _ _).alloc (Nat.le_refl _) _)).mono ?_
  rintro e w2 ⟨rfl, hb⟩
  have HB := Aside0.mk (below_step (below_alloc (Below.refl w.heap.size w) _) hb)
  have HG := Aside0.mk (blk_below (blk_new w (.cells #[.int .i64 a0, .int .u64 a1, .int .i64 a2, .int .i64 a3, .int .u32 a4, .slice A5 l5.length c5, .slice A6 l6.length c6] 56)) hb)
  clear hb
  have g0 : (w2.alloc (.cells #[.slice none 0 0] 22)).cell? ⟨w.heap.size, 0, none⟩ = some (.int .i64 a0) := (blk_cell (blk_alloc HG.out _) 0).trans rfl
  have g1 : (w2.alloc (.cells #[.slice none 0 0] 22)).cell? ⟨w.heap.size, 1, none⟩ = some (.int .u64 a1) := (blk_cell (blk_alloc HG.out _) 1).trans rfl
  have g2 : (w2.alloc (.cells #[.slice none 0 0] 22)).cell? ⟨w.heap.size, 2, none⟩ = some (.int .i64 a2) := (blk_cell (blk_alloc HG.out _) 2).trans rfl
  have g3 : (w2.alloc (.cells #[.slice none 0 0] 22)).cell? ⟨w.heap.size, 3, none⟩ = some (.int .i64 a3) := (blk_cell (blk_alloc HG.out _) 3).trans rfl
  have g4 : (w2.alloc (.cells #[.slice none 0 0] 22)).cell? ⟨w.heap.size, 4, none⟩ = some (.int .u32 a4) := (blk_cell (blk_alloc HG.out _) 4).trans rfl
  have g5 : (w2.alloc (.cells #[.slice none 0 0] 22)).cell? ⟨w.heap.size, 5, none⟩ = some (.slice A5 l5.length c5) := (blk_cell (blk_alloc HG.out _) 5).trans rfl
  have g6 : (w2.alloc (.cells #[.slice none 0 0] 22)).cell? ⟨w.heap.size, 6, none⟩ = some (.slice A6 l6.length c6) := (blk_cell (blk_alloc HG.out _) 6).trans rfl
  go_wp2_with fail
  refine (callsIn_wide.1 (fields_in 3 a0 a1 a2 a3 a4 A5 l5.length c5 A6 l6.length c6 _)).mono ?_
  rintro e w3 ⟨rfl, rfl⟩
  go_wp2_with fail
  have HG0 := Aside0.mk (blk_alloc (blk_alloc HG.out (.cells #[.slice none 0 0] 22)) (.cells #[.int .i64 a0, .int .u64 a1, .int .i64 a2, .int .i64 a3, .int .u32 a4, .slice A5 l5.length c5, .slice A6 l6.length c6] 56))
  have HS0 := Aside0.mk (blk_new (w2.alloc (.cells #[.slice none 0 0] 22)) (.cells #[.int .i64 a0, .int .u64 a1, .int .i64 a2, .int .i64 a3, .int .u32 a4, .slice A5 l5.length c5, .slice A6 l6.length c6] 56))
  have HB0 := Aside0.mk (below_alloc (below_alloc HB.out (.cells #[.slice none 0 0] 22)) (.cells #[.int .i64 a0, .int .u64 a1, .int .i64 a2, .int .i64 a3, .int .u32 a4, .slice A5 l5.length c5, .slice A6 l6.length c6] 56))
  have bS := Boxed.new w2 22 (.slice none 0 0)
  have hC0 := (bS.alloc (.cells #[.int .i64 a0, .int .u64 a1, .int .i64 a2, .int .i64 a3, .int .u32 a4, .slice A5 l5.length c5, .slice A6 l6.length c6] 56)).cell
  have hF0 := (bS.alloc (.cells #[.int .i64 a0, .int .u64 a1, .int .i64 a2, .int .i64 a3, .int .u32 a4, .slice A5 l5.length c5, .slice A6 l6.length c6] 56)).frozen
  have hsz : ((w2.alloc (.cells #[.slice none 0 0] 22)).alloc (.cells #[.int .i64 a0, .int .u64 a1, .int .i64 a2, .int .i64 a3, .int .u32 a4, .slice A5 l5.length c5, .slice A6 l6.length c6] 56)).heap.size = w2.heap.size + 2 := by simp
  have HLT := Aside0.mk (blk_lt HG.out)
  rw [World.size_alloc] at HS0
  clear bS HG HB g0 g1 g2 g3 g4 g5 g6
  generalize (w2.alloc (.cells #[.slice none 0 0] 22)).alloc (.cells #[.int .i64 a0, .int .u64 a1, .int .i64 a2, .int .i64 a3, .int .u32 a4, .slice A5 l5.length c5, .slice A6 l6.length c6] 56) = W0 at HG0 HS0 HB0 hC0 hF0 hsz ⊢
  generalize w2.heap.size = Bo at HS0 hC0 hF0 hsz HLT ⊢
  have hbo := HLT.out
  have HSZ := Aside0.mk hsz
  have hgl : w.heap.size ≠ Bo + 1 := by omega
  refine (wpIn_wide (n := 3)).1 ?_
  refine wpIn_rangeFunc_ownG rfl (by omega) (gf := 152) (lb := #[.pointer (some ⟨Bo + 1, 0, none⟩)]) rfl trivial (enters_of Try.func152 (by kernel_rfl) rfl)
    (fields_stops (3 - 1) (by omega) (Bo + 1) a0 a1 a2 a3 a4 (.slice A5 l5.length c5) (.slice A6 l6.length c6) W0 HS0.out) (fun h k o ho => k o (h o ho))
    (fun W l o o' hl _ _ _ x hx => (World.putObj_heap_other (by omega)).trans hx) (Below.refl _ _) (fun _ => rfl)
    (fun pre W => (∃ v, (W.cell? ⟨Bo, 0, none⟩ = some v ∧ W.frozen? ⟨Bo, 0, none⟩ = false) ∧ Kd.R (Kd.int .u8) 5 W w.heap.size (fun k => k ≠ Bo) v (pre.flatMap (fun x : Int × Int => putS x.1 x.2))) ∧ ((W.heap[w.heap.size]? = some (.cells #[.int .i64 a0, .int .u64 a1, .int .i64 a2, .int .i64 a3, .int .u32 a4, .slice A5 l5.length c5, .slice A6 l6.length c6] 56 (0, 0)) ∧ W.heap[Bo + 1]? = some (.cells #[.int .i64 a0, .int .u64 a1, .int .i64 a2, .int .i64 a3, .int .u32 a4, .slice A5 l5.length c5, .slice A6 l6.length c6] 56 (0, 0))) ∧ Below w.heap.size w W))
    (fun _ _ _ => False)
    (OwnFrom.and (own_R _ _ (fun v => Own.from (fun s A B row hs hg hr => ⟨cell_kept hs.1 hg hr, (frozen_kept hs.1 hg hr).trans hs.2⟩) _)) (OwnFrom.and (OwnFrom.and (own_blk _ _ _ _) (own_blk _ _ _ _)) (ownFrom_below (Nat.le_refl _) (by omega))))
    (fun _ _ _ _ _ hs _ _ => hs)
    ⟨⟨_, ⟨hC0, hF0⟩, Kd.R_nil _ _ _ _ _⟩, ⟨HG0.out, HS0.out⟩, HB0.out⟩
    (fun x => { tmps := #[.agg #[.int .i64 a0, .int .u64 a1, .int .i64 a2, .int .i64 a3, .int .u32 a4, .slice A5 l5.length c5, .slice A6 l6.length c6], .pointer (some ⟨w.heap.size, 0, none⟩), .slice none 0 0, .int .u16 0, .pointer (some ⟨Bo, 0, none⟩), .int .u64 x.1, .int .i64 x.2, undef, undef, .agg #[.int .i64 a0, .int .u64 a1, .int .i64 a2, .int .i64 a3, .int .u32 a4, .slice A5 l5.length c5, .slice A6 l6.length c6], .bool true, .bool false, .agg #[.int .i64 a0, .int .u64 a1, .int .i64 a2, .int .i64 a3, .int .u32 a4, .slice A5 l5.length c5, .slice A6 l6.length c6], .func (.func 152) #[] #[.pointer (some ⟨Bo + 1, 0, none⟩)], .int .u64 x.1, .int .i64 x.2, undef, undef, undef, undef, undef, undef, undef, undef, undef, undef, undef, undef, undef, undef, undef, undef, undef, undef, undef, undef, undef, undef, undef], defers := [] }) ?assign ?body ?done ?stop
  case assign =>
    intro l x W K hK
    gi_wp2
    simpa using hK
  case body =>
    rintro l pre x W ⟨⟨v, ⟨hc, hf⟩, hR⟩, ⟨hGb, hSb⟩, hB⟩ hpl
    obtain ⟨L, hL⟩ : ∃ L, L = pre.flatMap (fun x : Int × Int => putS x.1 x.2) := ⟨_, rfl⟩
    obtain ⟨P, hP0⟩ : ∃ P, P = putS x.1 x.2 := ⟨_, rfl⟩
    have HLL := Aside0.mk (show L.length ≤ 40 by have := putF_len pre; rw [hL]; omega)
    have HPL := Aside0.mk (show P.length ≤ 8 by rw [hP0]; exact (putS_some x.1 x.2).2)
    have HPP := Aside0.mk (show word_Put.f 9 x.1 x.2 = some P by rw [hP0]; exact (putS_some x.1 x.2).1)
    rw [← hL] at hR
    have HL_ := Aside0.mk hL
    have HP_ := Aside0.mk hP0
    clear hL hP0
    have HC1 := Aside0.mk (show W.drew.cell? ⟨Bo, 0, none⟩ = some v from hc)
    have HF1 := Aside0.mk (show W.drew.frozen? ⟨Bo, 0, none⟩ = false from hf)
    have HR1 := Aside0.mk (Kd.R_drew hR)
    have HN1 := Aside0.mk (below_drew1 (Below.refl w.heap.size W))
    have HG1 := Aside0.mk (blk_drew hGb)
    have HS1 := Aside0.mk (blk_drew hSb)
    have HSW := Aside0.mk hSb
    have HB1 := Aside0.mk hB
    clear hc hf hR hB hGb hSb
    gi_wp2_with fail
    refine start_in (n := 6) (S := fun w' => w'.cell? ⟨Bo, 0, none⟩ = some v) (ds := [4, 5]) #[false, false, false, false, false, false] (by kernel_rfl) (by rintro ⟨_, _, h_⟩; exact h_) (by kernel_rfl) rfl rfl (HC1.out) (fun hHeld => ?_)
    refine pure_ (i := 1) (N := some 17) (v := ?_) (a' := ?_) #[false, true, false, false, false, false] rfl rfl (by kernel_rfl) (fun _ _ _ h => h) (Or.inl ⟨by rfl, ?_⟩) ?_ ?_
    rotate_left
    · intro w'
      go_simp
      with_reducible rfl
    rotate_left
    · simp only [Act.put, List.setIfInBounds_toArray, List.set_cons_zero, List.set_cons_succ, i64_w, i32_w]
      rfl
    refine pure_ (i := 2) (N := some 18) (v := ?_) (a' := ?_) #[false, true, true, false, false, false] rfl rfl (by kernel_rfl) (fun _ _ _ h => h) (Or.inl ⟨by rfl, ?_⟩) ?_ ?_
    rotate_left
    · intro w'
      go_simp
      with_reducible rfl
    rotate_left
    · simp only [Act.put, List.setIfInBounds_toArray, List.set_cons_zero, List.set_cons_succ, i64_w, i32_w]
      rfl
    refine take_ (i := 0) (N := some 16) (v := ?_) (a' := ?_) #[true, true, true, false, false, false] rfl rfl (by kernel_rfl) (fun _ _ _ h => h) (Or.inl ⟨by rfl, ?_⟩) hHeld ?_ ?_
    rotate_left
    · intro w' s0
      go_simp
      with_reducible rfl
    rotate_left
    · simp only [Act.put, List.setIfInBounds_toArray, List.set_cons_zero, List.set_cons_succ, i64_w, i32_w]
      rfl
    refine one_ (i := 3) (N := some 19) #[true, true, true, true, false, false] rfl rfl (by kernel_rfl) (by decide) (fun K hK => ?_)
    refine goes_ Try.func82 (by kernel_rfl) rfl #[.int .u64 x.1, .int .i64 x.2] (by rfl) rfl rfl (by first | (simp only [List.map_toArray, List.map_cons, List.map_nil]; done) | (simp only [List.map_toArray, List.map_cons, List.map_nil]; rfl)) ?_
    with_reducible refine (word_Put.calls 9 x.1 x.2 P _ HPP.out).mono ?_
    rintro e w3 ⟨vp, rfl, hP, hb⟩
    refine ⟨_, rfl, ?_⟩
    obtain ⟨Ap, cp, ep⟩ := Kd.R_slice hP
    subst ep
    have hc3 := (hb.cell (World.block_lt_of_cell? _ _ HC1.out)).trans HC1.out
    have hf3 := (hb.frozen (World.block_lt_of_cell? _ _ HC1.out)).trans HF1.out
    have HR3 := Aside0.mk (Kd.R_below HR1.out hb)
    have HN3 := Aside0.mk (HN1.out.trans (hb.mono HB1.out.size))
    have HP3 := Aside0.mk hP
    have HK3 := Aside0.mk hb
    have HG3 := Aside0.mk (blk_below HG1.out hb)
    have HS3 := Aside0.mk (blk_below HS1.out hb)
    clear hb hP HG1 HS1
    refine hK.out _ _ (hc3) (fun hHeld => ?_)
    clear hK K
    refine norm_ (a' := ?_) ?_ ?_
    rotate_left
    · show Act.put _ (some 19) _ = _
      simp only [Act.put, List.setIfInBounds_toArray, List.set_cons_zero, List.set_cons_succ, i64_w, i32_w]
      rfl
    refine last_ (i := 4) (N := some 20) #[true, true, true, true, true, false] rfl rfl (by kernel_rfl) (by decide) (fun K hK => ?_)
    refine Kd.R_append_rows_step (Kd.int .u8) (w0 := W) w.heap.size (by rfl) (.tmp 16) (.tmp 19) 22 5 (.int .u8 0) 1 rfl Try.underlying22 info5 rfl (by decide) (by omega) v L P Ap P.length cp (fun k => k ≠ Bo) (fun _ => False) rfl rfl ?aO ?aR (fun _ _ h => h) (fun _ h => h.elim) ?aF ?aB ?aS ?aL ?_
    (case aO => exact HR3.out)
    (case aR => exact (Kd.R_reads' HP3.out).2.2)
    (case aF => intro k_ hk_ e_; have := World.block_lt_of_cell? _ _ hc3; simp at this; omega)
    (case aB => exact HN3.out)
    (case aS => exact Nat.le_trans HB1.out.size HN3.out.size)
    (case aL => have := HLL.out; have := HPL.out; omega)
    intro v7 w7 ho hb hg hat
    obtain ⟨M, hM⟩ : ∃ M, M = L ++ P := ⟨_, rfl⟩
    rw [← hM] at ho
    have HM_ := Aside0.mk hM
    clear hM
    obtain ⟨hc7, hf7⟩ := box_grown hg hc3 hf3 (fun e_ => HR3.out.1 _ e_.symm rfl)
    have HO7 := Aside0.mk ho
    have HN7 := Aside0.mk hb
    have HG7 := Aside0.mk hg
    have HGb := Aside0.mk (blk_grown HG3.out hg (Kd.R_ne HR3.out HG3.out (by decide)))
    have HSb := Aside0.mk (blk_grown HS3.out hg (Kd.R_ne HR3.out HS3.out (by decide)))
    clear ho hb hg hat
    obtain ⟨A7, c7, e7⟩ := Kd.R_slice HO7.out
    subst e7
    refine hK.out _ _ ?_
    clear hK K
    refine norm_ (a' := ?_) ?_ ?_
    rotate_left
    · show Act.put _ (some 20) _ = _
      simp only [Act.put, List.setIfInBounds_toArray, List.set_cons_zero, List.set_cons_succ, i64_w, i32_w]
      rfl
    refine last_ (i := 5) (N := none) #[true, true, true, true, true, true] rfl rfl (by kernel_rfl) (by decide) (fun K hK => ?_)
    refine skip_ (w1 := ?_) (by rfl) rfl ?_ ?_
    rotate_left
    · go_simp
      rfl
    refine hK.out _ _ ?_
    clear hK K
    refine done_ (by kernel_rfl) ?_

    have hne : some Bo ≠ (Value.slice A7 M.length c7).ownBlock := fun e_ => HO7.out.1 _ e_.symm rfl
    have hBo : w.heap.size ≤ Bo := Nat.le_of_lt HLT.out
    refine ⟨⟨?_, ?_⟩, ?_, ⟨.slice A7 M.length c7, ⟨?_, by rw [World.frozen?_setCell]; exact hf7⟩, ?_⟩, ⟨blk_far HGb.out (p := ⟨Bo, 0, none⟩) (by show w.heap.size ≠ Bo; omega) _, blk_far HSb.out (p := ⟨Bo, 0, none⟩) (by show Bo + 1 ≠ Bo; omega) _⟩, (HB1.out.trans HN7.out).setCell (p := ⟨Bo, 0, none⟩) hBo _⟩
    · rw [World.size_setCell]; exact HN7.out.size
    · intro k o hk ho hn
      have hk7 : w7.heap[k]? = some o := by
        have hlt := (Array.getElem?_eq_some_iff.1 ho).1
        have h3 : w3.heap[k]? = some o := (HK3.out.block k hlt).trans ho
        refine (HG7.out.block k (Array.getElem?_eq_some_iff.1 h3).1 ?_).trans h3
        exact not_own HR3.out h3 hn
      rw [Below.heap_setCell _ _ _ _ (by show k ≠ Bo; have := HSZ.out; omega)]
      exact hk7
    · intro o ho
      have e_ := ho.symm.trans HSW.out
      rw [e_]
      exact blk_far HSb.out (p := ⟨Bo, 0, none⟩) (by show Bo + 1 ≠ Bo; omega) _
    · exact (World.cell?_setCell_same' _ _ _ (by rw [hc7]; rfl))
    · have := Kd.R_far (p := ⟨Bo, 0, none⟩) HO7.out (fun _ hk => hk) (.slice A7 M.length c7)
      have e_ : ((pre ++ [x]).flatMap (fun x : Int × Int => putS x.1 x.2)) = M := by rw [HM_.out, HL_.out, HP_.out]; simp
      rw [e_]
      exact this
  case done =>
    rintro D ys W hD hS ⟨⟨v, ⟨hc, hf⟩, hR⟩, ⟨hGb, hSb⟩, hB⟩ hK
    have hys : ys = packFL a0 a1 a2 a3 a4 := hS
    have e0 : ys.flatMap (fun x : Int × Int => putS x.1 x.2) = packF a0 a1 a2 a3 a4 := by rw [hys]; rfl
    rw [e0] at hR
    obtain ⟨F, hF⟩ : ∃ F, F = packF a0 a1 a2 a3 a4 := ⟨_, rfl⟩
    rw [← hF] at hR
    have HFL := Aside0.mk (show F.length ≤ 40 by rw [hF]; have := putF_len (packFL a0 a1 a2 a3 a4); simp only [packFL, List.length_cons, List.length_nil] at this; unfold packF packFL; omega)
    have HF_ := Aside0.mk hF
    have hDo : Bo < D := by have := HSZ.out; omega
    have I0 : Aside0 ((∃ v, (W.cell? ⟨Bo, 0, none⟩ = some v ∧ W.frozen? ⟨Bo, 0, none⟩ = false) ∧ Kd.R (Kd.int .u8) 5 W w.heap.size (fun k => k ≠ Bo) v (F ++ (l5.take 0).flatMap (fun x => putS (IntKind.u64.wrap x) 2))) ∧ W.heap[w.heap.size]? = some (.cells #[.int .i64 a0, .int .u64 a1, .int .i64 a2, .int .i64 a3, .int .u32 a4, .slice A5 l5.length c5, .slice A6 l6.length c6] 56 (0, 0)) ∧ W.heap[D]? = some (.deferred (some [])) ∧ Below w.heap.size w W) := ⟨⟨⟨v, ⟨hc, hf⟩, by simpa using hR⟩, hGb, hK, hB⟩⟩
    have k5 : W.cell? ⟨w.heap.size, 5, none⟩ = some (.slice A5 l5.length c5) := (blk_cell hGb 5).trans rfl
    have hBo : w.heap.size ≤ Bo := Nat.le_of_lt HLT.out
    have hl5 : l5.length ≤ 4 := by
      have := HPB.out
      unfold packB at this
      have h4 := (of_decide_eq_true this).2.2.2.1
      split at h4 <;> omega
    clear hF hys e0 hc hf hR hGb hSb hB hK hS hC0 hF0
    go_wp2_with fail
    clear k5
    go_loopg [24] l5.length (fun kq v24 W' => ∃ i : Nat, v24 = .int .i64 i ∧ Aside0 (i + kq = l5.length) ∧ Aside0 ((∃ v, (W'.cell? ⟨Bo, 0, none⟩ = some v ∧ W'.frozen? ⟨Bo, 0, none⟩ = false) ∧ Kd.R (Kd.int .u8) 5 W' w.heap.size (fun k => k ≠ Bo) v (F ++ (l5.take i).flatMap (fun x => putS (IntKind.u64.wrap x) 2))) ∧ W'.heap[w.heap.size]? = some (.cells #[.int .i64 a0, .int .u64 a1, .int .i64 a2, .int .i64 a3, .int .u32 a4, .slice A5 l5.length c5, .slice A6 l6.length c6] 56 (0, 0)) ∧ W'.heap[D]? = some (.deferred (some [])) ∧ Below w.heap.size w W'))
    case atStart => exact ⟨0, rfl, ⟨by omega⟩, I0⟩
    case round =>
      clear I0
      obtain ⟨i, rfl, Hi, HI⟩ := hrel
      have hi := Hi.out
      obtain ⟨⟨v, ⟨hc, hf⟩, hR⟩, hGb, hK, hB⟩ := HI.out
      clear HI
      cases gk with
      | zero =>
        obtain rfl : i = l5.length := by omega
        rw [List.take_length] at hR
        obtain ⟨Av, cv, ev⟩ := Kd.R_slice hR
        subst ev
        obtain ⟨M, hM⟩ : ∃ M, M = F ++ l5.flatMap (fun x => putS (IntKind.u64.wrap x) 2) := ⟨_, rfl⟩
        rw [← hM] at hR hc
        have HMM := Aside0.mk hM
        have HML := Aside0.mk (show M.length ≤ 100 by have := putZ_len l5; rw [hM, List.length_append]; have := HFL.out; omega)
        have h6l : l6.length ≤ 64 := by
          have := HPB.out
          unfold packB at this
          have h4 := (of_decide_eq_true this).2.2.2.2.1
          split at h4 <;> omega
        have HR1 := Aside0.mk hR
        have HD1 := Aside0.mk hK
        have HB1 := Aside0.mk hB
        have k6 : wr.cell? ⟨w.heap.size, 6, none⟩ = some (.slice A6 l6.length c6) := (blk_cell hGb 6).trans rfl
        have HBo := Aside0.mk (World.block_lt_of_cell? _ _ hc)
        clear hM hR hK hB hGb hf Hi hi
        go_wp2_with (refine Kd.R_append_rows (Kd.int .u8) (w0 := w) w.heap.size rfl (.tmp 34) (.tmp 36) 22 5 (.int .u8 0) 1 rfl Try.underlying22 info5 rfl (by decide) (by omega) (.slice Av M.length cv) M l6 A6 l6.length c6 (fun k => k ≠ Bo) (fun _ => False) rfl rfl ?aO ?aR (fun _ _ h => h) (fun _ h => h.elim) ?aF ?aB ?aS ?aL ?_; (case aO => exact HR1.out); (case aR => exact Kd.C_below HR6.out HB1.out); (case aF => intro k_ hk_ e_; have := HBo.out; simp at this; omega); (case aB => exact HB1.out); (case aS => exact HB1.out.size); (case aL => have := HML.out; omega); intro v7 w7 ho hb hg hat; obtain ⟨M2, hM2⟩ : ∃ M2, M2 = M ++ l6 := ⟨_, rfl⟩; rw [← hM2] at ho; have HM2 := Aside0.mk hM2; have HO7 := Aside0.mk ho; have HN7 := Aside0.mk hb; have HD7 := Aside0.mk ((hg.block _ (Array.getElem?_eq_some_iff.1 HD1.out).1 (not_own HR1.out HD1.out rfl)).trans HD1.out); clear hM2 ho hb hg hat; obtain ⟨A7, c7, e7⟩ := Kd.R_slice HO7.out; subst e7)
        clear hc k6
        have hsl : crc_Seal.f k M2 = some r := by rw [HM2.out, HMM.out, HF_.out]; exact HSL.out
        refine (crc_Seal.calls k A7 c7 M2 r w7 (Kd.R_reads' HO7.out).2.2 (Kd.R_reads' HO7.out).2.1 hsl).mono ?_
        rintro e w8 ⟨v8, rfl, hR8, hb8⟩
        have HR8 := Aside0.mk (Kd.R_lower hR8 HN7.out.size)
        have HB8 := Aside0.mk (below_step HN7.out hb8)
        have hK8 := (hb8.block _ (Array.getElem?_eq_some_iff.1 HD7.out).1).trans HD7.out
        clear hsl hR8 hb8
        go_wp2
        refine ⟨by simp, .inl ⟨_, _, rfl, run_takeDeferred hK8, ?_⟩⟩
        refine ⟨_, (by simp [results, Try.results85, go_sem] : _ = Result.ok (Value.tuple #[v8, .int .u16 0]) _), v8, rfl, ?_, HB8.out.trans (belowK_b (w := w) (Nat.le_refl _) w8 D _ _ (by have := HLT.out; omega) hK8 rfl rfl)⟩
        refine Kd.R_mono (Kd.R_grown (Kd.R_bound HR8.out) (grownBy_putObj' _ D (.deferred none)) ?_) (fun _ _ => trivial)
        rintro k_ ⟨_, _, _, q, _, cells, hq⟩ hk
        cases hk
        rw [hK8] at hq
        cases hq
      | succ kk =>
        have hil : i < l5.length := by omega
        have hlt : (i : Int) < (l5.length : Int) := by omega
        obtain ⟨ad, ead, hcx⟩ := Kd.at_int (Kd.C_below HR5.out hB) (i : Int) (by omega) (by omega)
        rw [Int.toNat_natCast] at hcx
        obtain ⟨x, hx⟩ : ∃ x, rd l5 (i : Int) = x := ⟨_, rfl⟩
        rw [hx] at hcx
        have HX := Aside0.mk (show l5.take (i + 1) = l5.take i ++ [x] by
          rw [List.take_succ_eq_append_getElem hil]
          unfold rd at hx
          rw [Int.toNat_natCast, List.getD_eq_getElem?_getD, List.getElem?_eq_getElem hil] at hx
          rw [← hx]; rfl)
        clear hx
        subst ead
        obtain ⟨L, hL⟩ : ∃ L, L = F ++ (l5.take i).flatMap (fun x => putS (IntKind.u64.wrap x) 2) := ⟨_, rfl⟩
        rw [← hL] at hR
        have HLL := Aside0.mk (show L.length ≤ 100 by have := putZ_len (l5.take i); rw [List.length_take] at this; rw [hL, List.length_append]; have := HFL.out; omega)
        have HL_ := Aside0.mk hL
        obtain ⟨P, hP0⟩ : ∃ P, P = putS (IntKind.u64.wrap x) 2 := ⟨_, rfl⟩
        have HPL := Aside0.mk (show P.length ≤ 8 by rw [hP0]; exact (putS_some _ _).2)
        have HPP := Aside0.mk (show word_Put.f 9 (IntKind.u64.wrap x) 2 = some P by rw [hP0]; exact (putS_some _ _).1)
        have HP_ := Aside0.mk hP0
        have HC1 := Aside0.mk (show wr.drew.cell? ⟨Bo, 0, none⟩ = some v from hc)
        have HF1 := Aside0.mk (show wr.drew.frozen? ⟨Bo, 0, none⟩ = false from hf)
        have HR1 := Aside0.mk (Kd.R_drew hR)
        have HG1 := Aside0.mk (blk_drew hGb)
        have HD1 := Aside0.mk (show wr.drew.heap[D]? = some (.deferred (some [])) from hK)
        have HB1 := Aside0.mk (below_drew1 hB)
        clear hc hf hR hGb hK hB hL hP0
        go_wp2_with fail
        clear hcx
        refine Code.wp_mono noPanic_le ?_
        refine start_ (n := 6) (S := fun w' => w'.cell? ⟨Bo, 0, none⟩ = some v) (ds := [4, 5]) #[false, false, false, false, false, false] (by kernel_rfl) rfl rfl (HC1.out) (fun hHeld => ?_)
        refine pure_ (i := 1) (N := some 29) (v := ?_) (a' := ?_) #[false, true, false, false, false, false] rfl rfl (by kernel_rfl) (fun _ _ _ h => h) (Or.inl ⟨by rfl, ?_⟩) ?_ ?_
        rotate_left
        · intro w'
          go_simp
          with_reducible rfl
        rotate_left
        · simp only [Act.put, List.setIfInBounds_toArray, List.set_cons_zero, List.set_cons_succ, i64_w, i32_w]
          rfl
        refine pure_ (i := 2) (N := some 30) (v := ?_) (a' := ?_) #[false, true, true, false, false, false] rfl rfl (by kernel_rfl) (fun _ _ _ h => h) (Or.inl ⟨by rfl, ?_⟩) ?_ ?_
        rotate_left
        · intro w'
          go_simp
          with_reducible rfl
        rotate_left
        · simp only [Act.put, List.setIfInBounds_toArray, List.set_cons_zero, List.set_cons_succ, i64_w, i32_w]
          rfl
        refine take_ (i := 0) (N := some 28) (v := ?_) (a' := ?_) #[true, true, true, false, false, false] rfl rfl (by kernel_rfl) (fun _ _ _ h => h) (Or.inl ⟨by rfl, ?_⟩) hHeld ?_ ?_
        rotate_left
        · intro w' s0
          go_simp
          with_reducible rfl
        rotate_left
        · simp only [Act.put, List.setIfInBounds_toArray, List.set_cons_zero, List.set_cons_succ, i64_w, i32_w]
          rfl
        refine one_ (i := 3) (N := some 31) #[true, true, true, true, false, false] rfl rfl (by kernel_rfl) (by decide) (fun K hK => ?_)
        refine goes_ Try.func82 (by kernel_rfl) rfl #[.int .u64 (IntKind.u64.wrap x), .int .i64 2] (by rfl) rfl rfl (by first | (simp only [List.map_toArray, List.map_cons, List.map_nil]; done) | (simp only [List.map_toArray, List.map_cons, List.map_nil]; rfl)) ?_
        with_reducible refine (word_Put.calls 9 (IntKind.u64.wrap x) 2 P _ HPP.out).mono ?_
        rintro e w3 ⟨vp, rfl, hP, hb⟩
        refine ⟨_, rfl, ?_⟩
        obtain ⟨Ap, cp, ep⟩ := Kd.R_slice hP
        subst ep
        have hc3 := (hb.cell (World.block_lt_of_cell? _ _ HC1.out)).trans HC1.out
        have hf3 := (hb.frozen (World.block_lt_of_cell? _ _ HC1.out)).trans HF1.out
        have HR3 := Aside0.mk (Kd.R_below HR1.out hb)
        have HP3 := Aside0.mk hP
        have HG3 := Aside0.mk (blk_below HG1.out hb)
        have HD3 := Aside0.mk ((hb.block _ (Array.getElem?_eq_some_iff.1 HD1.out).1).trans HD1.out)
        have HB3 := Aside0.mk (below_step HB1.out hb)
        clear hb hP HG1 HD1 HB1
        refine hK.out _ _ (hc3) (fun hHeld => ?_)
        clear hK K
        refine norm_ (a' := ?_) ?_ ?_
        rotate_left
        · show Act.put _ (some 31) _ = _
          simp only [Act.put, List.setIfInBounds_toArray, List.set_cons_zero, List.set_cons_succ, i64_w, i32_w]
          rfl
        refine last_ (i := 4) (N := some 32) #[true, true, true, true, true, false] rfl rfl (by kernel_rfl) (by decide) (fun K hK => ?_)
        refine Kd.R_append_rows_step (Kd.int .u8) (w0 := w) w.heap.size (by rfl) (.tmp 28) (.tmp 31) 22 5 (.int .u8 0) 1 rfl Try.underlying22 info5 rfl (by decide) (by omega) v L P Ap P.length cp (fun k => k ≠ Bo) (fun _ => False) rfl rfl ?aO ?aR (fun _ _ h => h) (fun _ h => h.elim) ?aF ?aB ?aS ?aL ?_
        (case aO => exact HR3.out)
        (case aR => exact (Kd.R_reads' HP3.out).2.2)
        (case aF => intro k_ hk_ e_; have := World.block_lt_of_cell? _ _ hc3; simp at this; omega)
        (case aB => exact HB3.out)
        (case aS => exact HB3.out.size)
        (case aL => have := HLL.out; have := HPL.out; omega)
        intro v7 w7 ho hb hg hat
        obtain ⟨M, hM⟩ : ∃ M, M = L ++ P := ⟨_, rfl⟩
        rw [← hM] at ho
        have HM_ := Aside0.mk hM
        clear hM
        obtain ⟨hc7, hf7⟩ := box_grown hg hc3 hf3 (fun e_ => HR3.out.1 _ e_.symm rfl)
        have HO7 := Aside0.mk ho
        have HN7 := Aside0.mk hb
        have HGb := Aside0.mk (blk_grown HG3.out hg (Kd.R_ne HR3.out HG3.out (by decide)))
        have HDb := Aside0.mk ((hg.block _ (Array.getElem?_eq_some_iff.1 HD3.out).1 (not_own HR3.out HD3.out rfl)).trans HD3.out)
        clear ho hb hg hat
        obtain ⟨A7, c7, e7⟩ := Kd.R_slice HO7.out
        subst e7
        refine hK.out _ _ ?_
        clear hK K
        refine norm_ (a' := ?_) ?_ ?_
        rotate_left
        · show Act.put _ (some 32) _ = _
          simp only [Act.put, List.setIfInBounds_toArray, List.set_cons_zero, List.set_cons_succ, i64_w, i32_w]
          rfl
        refine last_ (i := 5) (N := none) #[true, true, true, true, true, true] rfl rfl (by kernel_rfl) (by decide) (fun K hK => ?_)
        refine skip_ (w1 := ?_) (by rfl) rfl ?_ ?_
        rotate_left
        · go_simp
          rfl
        refine hK.out _ _ ?_
        clear hK K
        refine done_ (by kernel_rfl) ?_

        dsimp only [noPanic]
        have hBl : w.heap.size ≤ Bo := Nat.le_of_lt HLT.out
        try go_wp2
        go_roundg kk
        case measure => omega
        case rel =>
          refine ⟨i + 1, by first | rfl | (simp; done) | go_num, ⟨by omega⟩, ⟨⟨.slice A7 M.length c7, ⟨World.cell?_setCell_same' _ _ _ (by rw [hc7]; rfl), by rw [World.frozen?_setCell]; exact hf7⟩, ?_⟩, blk_far HGb.out (p := ⟨Bo, 0, none⟩) (by show w.heap.size ≠ Bo; have := HLT.out; omega) _, ?_, HN7.out.setCell (p := ⟨Bo, 0, none⟩) hBl _⟩⟩
          · have := Kd.R_far (p := ⟨Bo, 0, none⟩) HO7.out (fun _ hk => hk) (.slice A7 M.length c7)
            rw [HX.out, List.flatMap_append, ← List.append_assoc]
            have e_ : F ++ (l5.take i).flatMap (fun x => putS (IntKind.u64.wrap x) 2) ++ [x].flatMap (fun x => putS (IntKind.u64.wrap x) 2) = M := by rw [HM_.out, HL_.out, HP_.out]; simp
            rw [e_]
            exact this
          · rw [Below.heap_setCell _ _ _ _ (by show D ≠ Bo; omega)]
            exact HDb.out
  case stop =>
    rintro D c pre W _ _ h _
    exact h.elim
theorem pack_Encode.calls (k : Nat) (a0 a1 a2 a3 a4 : Int) (A5 : Option Addr) (c5 : Nat) (l5 : List Int) (A6 : Option Addr) (c6 : Nat) (l6 : List Int) (r1 : List Int) (r2 : Int) (w : World) (hr5 : Kd.C (Kd.int .i64) w A5 l5.length l5) (hc5 : l5.length ≤ c5) (hr6 : Kd.C (Kd.int .u8) w A6 l6.length l6) (hc6 : l6.length ≤ c6) (h : pack_Encode.f k a0 a1 a2 a3 a4 l5 l6 = some (r1, r2)) :
    Calls Try.prog 85 #[.agg #[.int .i64 a0, .int .u64 a1, .int .i64 a2, .int .i64 a3, .int .u32 a4, .slice A5 l5.length c5, .slice A6 l6.length c6]] w fun e w' => ∃ v0_ : Value, e = .returned (.tuple #[v0_, .int .u16 r2]) ∧ Kd.R (Kd.int .u8) 5 w' w.heap.size (fun _ => True) v0_ r1 ∧ Below w.heap.size w w' := by
  unfold pack_Encode.f at h
  by_cases hi : isInt a0
  · rw [if_pos hi] at h
    cases hB : packB a0 a2 a3 l5 l6 with
    | true =>
      rw [hB, if_pos rfl] at h
      obtain ⟨q, hq, h⟩ := Option.bind_eq_some_iff.mp h
      simp only [Option.some.injEq, Prod.mk.injEq] at h
      obtain ⟨rfl, rfl⟩ := h
      exact encode_yes k a0 a1 a2 a3 a4 A5 c5 l5 A6 c6 l6 q w hi hr5 hc5 hr6 hc6 hB hq
    | false =>
      rw [hB, if_neg (by simp)] at h
      simp only [Option.some.injEq, Prod.mk.injEq] at h
      obtain ⟨rfl, rfl⟩ := h
      exact (encode_no k a0 a1 a2 a3 a4 A5 c5 l5 A6 c6 l6 w hi hr5 hc5 hr6 hc6 hB).mono fun e w' ⟨he, hb⟩ => ⟨_, he, Kd.R_nil _ _ _ _ _, hb⟩
  · rw [if_neg hi] at h; cases h
end Go.Proofs.Ytliohoalackhiaa.I
